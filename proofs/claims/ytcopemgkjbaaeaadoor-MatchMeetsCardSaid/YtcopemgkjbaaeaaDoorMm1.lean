import Derived.RowKit3
import Derived.Below
import Derived.WalkKit
import Derived.Lib.Hide
import Derived.BigRegion
import Derived.BigQuiet
import Derived.Deep.QuietTactic
import Derived.Deep.RegionHeld3
import Derived.StillTailTactics
import Derived.Deep.Draws
import Derived.Deep.DeepCutAuto
import Derived.Deep.CutBlock
import Derived.Outline
import Derived.Handy
import Derived.Deep.LoopGhost
import Derived.Maps.AppendAt
import Derived.Deep.AppendLies
import Derived.Test.YtcopemgkjbaaeaaDoorProg
import Derived.OrdersIn
import Derived.TacticsIn
import Derived.RangeFuncRecord
import Derived.RangeFuncIn
import Derived.RangeFuncLeaves
import Derived.RangeFuncCalls
import Derived.Wp
import Derived.Scope
namespace Go.Proofs.YtcopemgkjbaaeaaDoor
set_option linter.all false
open Go.RowKit
def wu (x : Int) : Int := IntKind.u64.wrap x
structure Ent where
  key : ByteArray
  c : Int
  n : Int
  val : ByteArray
  dead : Bool
structure Tal where
  k : Int
  a : Int
  b : Int
def Ent.v (e : Ent) : Value := .agg #[.string e.key, .int .i64 e.c, .int .i64 e.n, .string e.val, .bool e.dead]
def Tal.v (t : Tal) : Value := .agg #[.int .i64 t.k, .int .u64 t.a, .int .u64 t.b]
def Tal.join (s t : Tal) : Tal := ⟨wrap64 (s.k + t.k), wu (s.a + t.a), wu (s.b + t.b)⟩
def Tal.zero : Tal := ⟨0, 0, 0⟩
inductive T where
  | nil
  | node (e : Ent) (l r : T)
def T.size : T → Nat
  | .nil => 0
  | .node _ l r => l.size + 1 + r.size
def T.high : T → Nat
  | .nil => 0
  | .node _ l r => 1 + max l.high r.high
def T.isNil : T → Bool
  | .nil => true
  | _ => false
def T.list : T → List Ent
  | .nil => []
  | .node e l r => l.list ++ e :: r.list
def stirL (f : Int) (sh : Nat) (s w : Int) : Int :=
  bits .xor .u64 (wu (bits .xor .u64 s w * f)) ((wu (bits .xor .u64 s w * f)).fdiv (2 ^ sh))
def keyWords : List UInt8 → List Int
  | [] => []
  | c :: l => word ((c :: l).take 8) :: keyWords ((c :: l).drop 8)
termination_by l => l.length
decreasing_by simp; omega
where word : List UInt8 → Int
  | [] => 0
  | c :: l => (c.toNat : Int) + 256 * word l
def mixWords (key : ByteArray) (c n : Int) : List Int := wu (key.size : Nat) :: keyWords key.toList ++ [wu c, wu n]
def laneA (l : List Int) : Int := l.foldl (stirL 11400714819323198485 29) 2611923443488327891
def laneB (l : List Int) : Int := l.foldl (stirL 14029467366897019727 32) 1376283091369227076
def Ent.tal (e : Ent) : Tal := ⟨1, laneA (mixWords e.key e.c e.n), laneB (mixWords e.key e.c e.n)⟩
def T.sum : T → Tal
  | .nil => .zero
  | .node e l r => joinR (joinL l.isNil (T.sum l) e.tal) r.isNil (T.sum r)
where
  joinL : Bool → Tal → Tal → Tal
    | true, _, t => t
    | false, s, t => s.join t
  joinR : Tal → Bool → Tal → Tal
    | s, true, _ => s
    | s, false, t => s.join t
theorem T.high_le_size : ∀ t : T, t.high ≤ t.size
  | .nil => Nat.le_refl _
  | .node _ l r => by have := T.high_le_size l; have := T.high_le_size r; simp only [T.high, T.size]; omega
def T.even (e : Ent) (l r : T) : T :=
  if r.high + 1 < l.high then
    match l with
    | .nil => .nil
    | .node le ll lr =>
      if lr.high ≤ ll.high then .node le ll (.node e lr r)
      else match lr with
        | .nil => .nil
        | .node me ml mr => .node me (.node le ll ml) (.node e mr r)
  else if l.high + 1 < r.high then
    match r with
    | .nil => .nil
    | .node re rl rr =>
      if rl.high ≤ rr.high then .node re (.node e l rl) rr
      else match rl with
        | .nil => .nil
        | .node me ml mr => .node me (.node e l ml) (.node re mr rr)
  else .node e l r
def klt (a b : ByteArray) : Bool := Op.bytesLess a.toList b.toList
end Go.Proofs.YtcopemgkjbaaeaaDoor
namespace Go.Proofs.YtcopemgkjbaaeaaDoor
set_option linter.all false
open Go.RowKit
theorem w64 (x : Int) : IntKind.i64.wrap x = wrap64 x := by unfold wrap64; exact IntKind.wrap_i64 x
@[simp, go_sem] theorem lt_step {n m : Nat} (h : n < m) : (n < m + 1) = True := eq_true (by omega)
@[simp, go_sem] theorem le_step {n m : Nat} (h : n ≤ m) : (n ≤ m + 1) = True := eq_true (by omega)
@[simp, go_sem] theorem eq_step {n m : Nat} (h : n < m + 1) : (n = m + 1 + 1) = False := eq_false (by omega)
@[simp, go_sem] theorem eq_step' {n m : Nat} (h : n < m + 1) : (m + 1 + 1 = n) = False := eq_false (by omega)
attribute [go_sem] Tal.v Ent.v
structure Ext (X : List Nat) (w w' : World) : Prop where
  os : w'.os = w.os
  tape : w'.tape = w.tape
  output : w'.output = w.output
  size : w.heap.size ≤ w'.heap.size
  block : ∀ k, k < w.heap.size → k ∉ X → w'.heap[k]? = w.heap[k]?
section
variable {X Y : List Nat} {a b c w w' : World}
theorem Ext.refl (X : List Nat) (w : World) : Ext X w w := ⟨rfl, rfl, rfl, Nat.le_refl _, fun _ _ _ => rfl⟩
theorem Ext.trans (h : Ext X a b) (k : Ext X b c) : Ext X a c :=
  ⟨k.os.trans h.os, k.tape.trans h.tape, k.output.trans h.output, Nat.le_trans h.size k.size,
    fun i hi hx => (k.block i (Nat.lt_of_lt_of_le hi h.size) hx).trans (h.block i hi hx)⟩
theorem Ext.mono (h : Ext X a b) (hs : ∀ k, k < a.heap.size → k ∈ X → k ∈ Y) : Ext Y a b :=
  ⟨h.os, h.tape, h.output, h.size, fun i hi hy => h.block i hi fun hx => hy (hs i hi hx)⟩
theorem Ext.nil (h : Ext [] a b) : Ext X a b := h.mono (by simp)
theorem Ext.below (h : Ext [] a b) : Below a.heap.size a b := ⟨h.os, h.tape, h.output, h.size, fun k hk => h.block k hk (by simp)⟩
theorem Ext.drew (h : Ext X a w) : Ext X a w.drew := ⟨h.os, h.tape, h.output, h.size, h.block⟩
theorem Ext.alloc (h : Ext X a w) (o : Obj) : Ext X a (w.alloc o) :=
  h.trans ⟨rfl, rfl, rfl, by simp, fun k hk _ => Below.heap_alloc _ _ _ hk⟩
theorem Ext.setCell (h : Ext X a w) {p : Addr} (hp : p.block ∈ X ∨ a.heap.size ≤ p.block) (u : Value) : Ext X a (w.setCell p u) :=
  ⟨h.os, h.tape, h.output, by simpa [World.setCell] using h.size, fun k hk hx => (Below.heap_setCell _ _ _ _ (by
    rintro rfl
    rcases hp with hp | hp
    · exact hx hp
    · omega)).trans (h.block k hk hx)⟩
theorem Ext.blk (h : Ext X a b) {k : Nat} {o : Obj} (hk : a.heap[k]? = some o) (hx : k ∉ X) : b.heap[k]? = some o :=
  (h.block k (by
    rcases Nat.lt_or_ge k a.heap.size with hlt | hge
    · exact hlt
    · rw [Array.getElem?_eq_none hge] at hk; cases hk) hx).trans hk
end
def Blk (w : World) (g : Nat) (t : TypeId) (cs : Array Value) : Prop := w.heap[g]? = some (.cells cs t (0, 0))
section
variable {w w' : World} {g : Nat} {t : TypeId} {cs : Array Value}
theorem Blk.lt (h : Blk w g t cs) : g < w.heap.size := by
  rcases Nat.lt_or_ge g w.heap.size with hlt | hge
  · exact hlt
  · unfold Blk at h; rw [Array.getElem?_eq_none hge] at h; cases h
theorem Blk.cell (h : Blk w g t cs) (i : Nat) : w.cell? ⟨g, i, none⟩ = cs[i]? := cell_of_row w g i cs t (0, 0) h
theorem Blk.frozen (h : Blk w g t cs) (i : Nat) : w.frozen? ⟨g, i, none⟩ = false := by
  unfold Blk at h
  simp [World.frozen?, h]
theorem Blk.new (w : World) (t : TypeId) (cs : Array Value) : Blk (w.alloc (.cells cs t)) w.heap.size t cs := heap_alloc_new w _
theorem Blk.alloc (h : Blk w g t cs) (o : Obj) : Blk (w.alloc o) g t cs := (Below.heap_alloc w o g h.lt).trans h
theorem Blk.set_ (h : Blk w g t cs) (i : Nat) (u : Value) : Blk (w.setCell ⟨g, i, none⟩ u) g t (cs.setIfInBounds i u) := by
  unfold Blk at h ⊢
  simp [World.setCell, Array.getElem?_modify, h]
theorem Blk.ext {X : List Nat} (h : Blk w g t cs) (hb : Ext X w w') (hg : g ∉ X) : Blk w' g t cs := hb.blk h hg
theorem Ext.from {X Y : List Nat} {a w1 : World} (h : Ext X a w) (hb : Ext Y w1 w') (hh : w1.heap = w.heap) (ho : w1.os = w.os) (ht : w1.tape = w.tape) (hu : w1.output = w.output)
    (hY : ∀ k, k ∈ Y → k ∈ X ∨ a.heap.size ≤ k) : Ext X a w' :=
  ⟨hb.os.trans (ho.trans h.os), hb.tape.trans (ht.trans h.tape), hb.output.trans (hu.trans h.output), Nat.le_trans h.size (by have := hb.size; rw [hh] at this; exact this),
    fun k hk hx => (hb.block k (by rw [hh]; exact Nat.lt_of_lt_of_le hk h.size) (fun hy => by
      rcases hY k hy with h1 | h1
      · exact hx h1
      · omega)).trans (by rw [hh]; exact h.block k hk hx)⟩
theorem Blk.ne_ {g' : Nat} {t' : TypeId} {cs' : Array Value} (h : Blk w g t cs) (h' : Blk w g' t' cs') (hne : t ≠ t') : g ≠ g' := by
  rintro rfl
  unfold Blk at h h'
  rw [h] at h'
  injection h' with h'
  injection h' with _ ht
  exact hne ht
end
section
variable {P : Program} {C : Code} {Q : Exit → Act → World → Prop} {a : Act} {w w' : World} {x : Addr} {v u : Value} {o : Obj}
end
theorem Blk.drew {w : World} {g : Nat} {t : TypeId} {cs : Array Value} (h : Blk w g t cs) : Blk w.drew g t cs := h
theorem Blk.cells2 {w : World} {g : Nat} {t : TypeId} {x0 x1 : Value} (h : Blk w g t #[x0, x1]) : w.cell? ⟨g, 0, none⟩ = some x0 ∧ w.cell? ⟨g, 1, none⟩ = some x1 ∧ (∀ i, w.frozen? ⟨g, i, none⟩ = false) ∧ g < w.heap.size :=
  ⟨h.cell 0, h.cell 1, h.frozen, h.lt⟩
theorem Blk.cells3 {w : World} {g : Nat} {t : TypeId} {x0 x1 x2 : Value} (h : Blk w g t #[x0, x1, x2]) : w.cell? ⟨g, 0, none⟩ = some x0 ∧ w.cell? ⟨g, 1, none⟩ = some x1 ∧ w.cell? ⟨g, 2, none⟩ = some x2 ∧ (∀ i, w.frozen? ⟨g, i, none⟩ = false) ∧ g < w.heap.size :=
  ⟨h.cell 0, h.cell 1, h.cell 2, h.frozen, h.lt⟩
theorem Blk.cells5 {w : World} {g : Nat} {t : TypeId} {x0 x1 x2 x3 x4 : Value} (h : Blk w g t #[x0, x1, x2, x3, x4]) : w.cell? ⟨g, 0, none⟩ = some x0 ∧ w.cell? ⟨g, 1, none⟩ = some x1 ∧ w.cell? ⟨g, 2, none⟩ = some x2 ∧ w.cell? ⟨g, 3, none⟩ = some x3 ∧ w.cell? ⟨g, 4, none⟩ = some x4 ∧ (∀ i, w.frozen? ⟨g, i, none⟩ = false) ∧ g < w.heap.size :=
  ⟨h.cell 0, h.cell 1, h.cell 2, h.cell 3, h.cell 4, h.frozen, h.lt⟩
end Go.Proofs.YtcopemgkjbaaeaaDoor
namespace Go.Proofs.YtcopemgkjbaaeaaDoor
set_option linter.all false
open Go.RowKit
section
variable {P : Program} {ops : Array Oper} {Q : Exit → Act → World → Prop} {md : Region.Mode} {S : World → Prop}
def Rep (n : Nat) (listed : Array Bool) (m : Nat) : Prop := listed.size = n ∧ ∀ k, k < n → listed[k]? = some (m.testBit k)
theorem Rep.zero (n : Nat) : Rep n (Array.replicate n false) 0 := ⟨by simp, fun k hk => by simp [hk]⟩
theorem Rep.set {n : Nat} {listed : Array Bool} {m : Nat} (h : Rep n listed m) (i : Nat) : Rep n (listed.setIfInBounds i true) (m ||| 2 ^ i) := by
  refine ⟨by simpa using h.1, fun k hk => ?_⟩
  rw [Array.getElem?_setIfInBounds]
  by_cases e : i = k
  · subst e; simp [h.1, hk]
  · rw [if_neg e, h.2 k hk, Nat.testBit_or, Nat.testBit_two_pow, decide_eq_false e, Bool.or_false]
theorem Rep.getD {n : Nat} {listed : Array Bool} {m : Nat} (h : Rep n listed m) {k : Nat} (hk : k < n) (b : Bool) : listed.getD k b = m.testBit k := by
  rw [Array.getD_eq_getD_getElem?, h.2 k hk]; rfl
theorem Rep.out {n : Nat} {listed : Array Bool} {m : Nat} (h : Rep n listed m) {k : Nat} (hk : n ≤ k) (b : Bool) : listed.getD k b = b := by
  rw [Array.getD_eq_getD_getElem?, Array.getElem?_eq_none (by rw [h.1]; exact hk)]; rfl
def bindsAny (e : Edge) : Bool := match e.ground with | .textOnly _ => false | .gcOnly _ => false | _ => true
theorem bindsAny_eq (e : Edge) : Region.binds .any e = bindsAny e := by
  unfold Region.binds bindsAny; split <;> simp_all <;> rfl
def edgesIn (n m : Nat) (o : Oper) : Bool := o.after.toList.all fun e => !bindsAny e || (m.testBit e.on && Nat.blt e.on n)
def freeB (ops : Array Oper) (m i : Nat) (oi : Oper) : List Oper → Nat → Bool
  | [], _ => true
  | oj :: l, j => (m.testBit j || Nat.beq j i || oj.after.toList.any (fun e => bindsAny e && Nat.beq e.on i) || oi.apart ops oj) && freeB ops m i oi l (j + 1)
def memB (j : Nat) : List Nat → Bool
  | [] => false
  | k :: l => Nat.beq j k || memB j l
theorem memB_mem {j : Nat} : ∀ {l : List Nat}, memB j l = true → j ∈ l
  | [], h => by cases h
  | k :: l, h => by
    simp only [memB, Bool.or_eq_true] at h
    rcases h with h | h
    · rw [Nat.eq_of_beq_eq_true h]; exact List.mem_cons_self
    · exact List.mem_cons_of_mem _ (memB_mem h)
def onlyB (n m : Nat) (hs : List Nat) : List Oper → Nat → Bool
  | [], _ => true
  | oj :: l, j => (m.testBit j || !edgesIn n m oj || memB j hs) && onlyB n m hs l (j + 1)
inductive Sc where
  | nil
  | cons (k i : Nat) (l : Sc)
  | fork (a b : Sc)
def Sc.heads : Sc → List Nat
  | .nil => []
  | .cons _ i _ => [i]
  | .fork a b => a.heads ++ b.heads
def Sc.depth : Sc → Nat
  | .nil => 0
  | .cons _ _ l => l.depth + 1
  | .fork a b => cond (Nat.ble a.depth b.depth) b.depth a.depth
def noneB (m : Nat) : Nat → Bool
  | 0 => true
  | k + 1 => m.testBit k && noneB m k
def keptB (kp : Nat) (m i : Nat) : List Oper → Nat → Bool
  | [], _ => true
  | oj :: l, j => (m.testBit j || Nat.beq j i || kp.testBit j || oj.after.toList.any (fun e => bindsAny e && Nat.beq e.on i)) && keptB kp m i l (j + 1)
def schedOk (ops : Array Oper) (L : List Oper) (n kp kq : Nat) : Sc → Bool → Nat → Bool
  | .nil, c, m => !c && noneB m n
  | .cons 0 i l, c, m => !c && (match L[i]? with | some o => !m.testBit i && edgesIn n m o && freeB ops m i o L 0 | none => false) && schedOk ops L n kp kq l false (m ||| 2 ^ i)
  | .cons 1 i l, c, m => !c && (match L[i]? with | some o => !m.testBit i && edgesIn n m o && freeB ops m i o L 0 && keptB kp m i L 0 | none => false) && schedOk ops L n kp kq l false (m ||| 2 ^ i)
  | .cons 4 i l, c, m => !c && (match L[i]? with | some o => !m.testBit i && edgesIn n m o && freeB ops m i o L 0 && keptB kp m i L 0 && keptB kq m i L 0 | none => false) && schedOk ops L n kp kq l false (m ||| 2 ^ i)
  | .cons _ i l, c, m => (match L[i]? with | some o => !m.testBit i && edgesIn n m o | none => false) && (c || onlyB n m [i] L 0) && schedOk ops L n kp kq l false (m ||| 2 ^ i)
  | .fork a b, c, m => (c || onlyB n m (a.heads ++ b.heads) L 0) && schedOk ops L n kp kq a true m && schedOk ops L n kp kq b true m
theorem mem_ready_iff {n : Nat} {L : List Oper} {listed : Array Bool} {m : Nat} (hn : L.length = n) (h : Rep n listed m) (hw : ∀ o ∈ L, o.after.toList.all (fun e => Nat.blt e.on n) = true) {i : Nat} {o : Oper} (ho : L[i]? = some o) :
    i ∈ Region.ready .any L.toArray listed ↔ (m.testBit i = false ∧ edgesIn n m o = true) := by
  have hi : i < n := by
    rw [← hn]
    exact (List.getElem?_eq_some_iff.1 ho).1
  simp only [Region.ready, List.mem_filter, List.mem_range, List.size_toArray, hn, hi, true_and, Bool.and_eq_true, Bool.not_eq_true']
  rw [h.getD hi]
  refine and_congr Iff.rfl ?_
  have e1 : (L.toArray)[i]? = some o := by simpa using ho
  simp only [e1, Option.map_some, Option.getD_some, edgesIn]
  rw [← Array.all_toList, List.all_eq_true, List.all_eq_true]
  refine forall_congr' fun e => forall_congr' fun he => ?_
  have hb := List.all_eq_true.1 (hw o (List.mem_of_getElem? ho)) e he
  have hlt : e.on < n := by simpa [Nat.blt_eq] using hb
  rw [bindsAny_eq, h.getD hlt]
  simp [Nat.blt_eq, hlt]
theorem free_of {n : Nat} {L : List Oper} {listed : Array Bool} {m : Nat} (hn : L.length = n) (h : Rep n listed m) {i : Nat} {oi : Oper} (hi : L[i]? = some oi)
    (hf : freeB L.toArray m i oi L 0 = true) : Region.free .any L.toArray listed i = true := by
  have key : ∀ (l : List Oper) (k : Nat), freeB L.toArray m i oi l k = true → ∀ j oj, l[j]? = some oj → m.testBit (k + j) = true ∨ k + j = i ∨ oj.after.toList.any (fun e => bindsAny e && Nat.beq e.on i) = true ∨ oi.apart L.toArray oj = true := by
    intro l
    induction l with
    | nil => intro k _ j oj hj; simp at hj
    | cons o l ih =>
      intro k hk j oj hj
      simp only [freeB, Bool.and_eq_true, Bool.or_eq_true] at hk
      cases j with
      | zero =>
        obtain rfl : o = oj := by simpa using hj
        rcases hk.1 with ((h1 | h1) | h1) | h1
        · exact .inl h1
        · exact .inr (.inl (by simpa using h1))
        · exact .inr (.inr (.inl h1))
        · exact .inr (.inr (.inr h1))
      | succ j =>
        have := ih (k + 1) hk.2 j oj (by simpa using hj)
        rwa [show k + 1 + j = k + (j + 1) from by omega] at this
  have e1 : (L.toArray)[i]? = some oi := by simpa using hi
  simp only [Region.free, e1, List.all_eq_true, List.mem_range, List.size_toArray]
  intro j hj
  have hjn : j < n := by omega
  have hoj : L[j]? = some (L[j]) := List.getElem?_eq_getElem hj
  have e2 : (L.toArray)[j]? = some (L[j]) := by simpa using hoj
  simp only [e2]
  rw [h.getD hjn]
  rcases key L 0 hf j _ hoj with h1 | h1 | h1 | h1
  · rw [Nat.zero_add] at h1; simp [h1]
  · rw [Nat.zero_add] at h1; simp [h1]
  · have : (L[j]).after.any (fun e => Region.binds .any e && e.on == i) = true := by
      rw [← Array.any_toList, List.any_eq_true]
      obtain ⟨e, he, hb⟩ := List.any_eq_true.1 h1
      refine ⟨e, he, ?_⟩
      rw [bindsAny_eq]
      simpa using hb
    simp [this]
  · simp [h1]
theorem only_of {n : Nat} {L : List Oper} {listed : Array Bool} {m : Nat} (hn : L.length = n) (h : Rep n listed m) (hw : ∀ o ∈ L, o.after.toList.all (fun e => Nat.blt e.on n) = true) {hs : List Nat}
    (hi : onlyB n m hs L 0 = true) : ∀ j, j ∈ Region.ready .any L.toArray listed → j ∈ hs := by
  have key : ∀ (l : List Oper) (k : Nat), onlyB n m hs l k = true → ∀ j oj, l[j]? = some oj → m.testBit (k + j) = true ∨ edgesIn n m oj = false ∨ memB (k + j) hs = true := by
    intro l
    induction l with
    | nil => intro k _ j oj hj; simp at hj
    | cons o l ih =>
      intro k hk j oj hj
      simp only [onlyB, Bool.and_eq_true, Bool.or_eq_true, Bool.not_eq_true'] at hk
      cases j with
      | zero =>
        obtain rfl : o = oj := by simpa using hj
        rcases hk.1 with (h1 | h1) | h1
        · exact .inl h1
        · exact .inr (.inl h1)
        · exact .inr (.inr h1)
      | succ j =>
        have := ih (k + 1) hk.2 j oj (by simpa using hj)
        rwa [show k + 1 + j = k + (j + 1) from by omega] at this
  intro j hj
  have hjs : j < L.length := by
    simp only [Region.ready, List.mem_filter, List.mem_range, List.size_toArray] at hj
    exact hj.1
  have hoj : L[j]? = some (L[j]) := List.getElem?_eq_getElem hjs
  have hr := (mem_ready_iff hn h hw hoj).1 hj
  rcases key L 0 hi j _ hoj with h1 | h1 | h1
  · rw [Nat.zero_add] at h1; rw [h1] at hr; cases hr.1
  · rw [h1] at hr; cases hr.2
  · rw [Nat.zero_add] at h1; exact memB_mem h1
theorem none_of {n : Nat} {L : List Oper} {listed : Array Bool} {m : Nat} (hn : L.length = n) (h : Rep n listed m) (hm : noneB m n = true) : Region.ready .any L.toArray listed = [] := by
  have key : ∀ k, noneB m k = true → ∀ j, j < k → m.testBit j = true := by
    intro k
    induction k with
    | zero => intro _ j hj; omega
    | succ k ih =>
      intro hk j hj
      simp only [noneB, Bool.and_eq_true] at hk
      by_cases e : j = k
      · subst e; exact hk.1
      · exact ih hk.2 j (by omega)
  simp only [Region.ready, List.filter_eq_nil_iff, List.mem_range, List.size_toArray]
  intro j hj
  rw [h.getD (by omega), key n hm j (by omega)]
  simp
theorem kept_of {n : Nat} {L : List Oper} {listed : Array Bool} {m kp : Nat} (hn : L.length = n) (h : Rep n listed m) {i : Nat}
    (hf : keptB kp m i L 0 = true) (j : Nat) (oj : Oper) (hj : L[j]? = some oj) (hji : j ≠ i) (hun : listed.getD j true = false) (hno : ∀ e ∈ oj.after, Region.binds .any e = true → e.on ≠ i) : kp.testBit j = true := by
  have key : ∀ (l : List Oper) (k : Nat), keptB kp m i l k = true → ∀ j oj, l[j]? = some oj → m.testBit (k + j) = true ∨ k + j = i ∨ kp.testBit (k + j) = true ∨ oj.after.toList.any (fun e => bindsAny e && Nat.beq e.on i) = true := by
    intro l
    induction l with
    | nil => intro k _ j oj hj; simp at hj
    | cons o l ih =>
      intro k hk j oj hj
      simp only [keptB, Bool.and_eq_true, Bool.or_eq_true] at hk
      cases j with
      | zero =>
        obtain rfl : o = oj := by simpa using hj
        rcases hk.1 with ((h1 | h1) | h1) | h1
        · exact .inl h1
        · exact .inr (.inl (by simpa using h1))
        · exact .inr (.inr (.inl h1))
        · exact .inr (.inr (.inr h1))
      | succ j =>
        have := ih (k + 1) hk.2 j oj (by simpa using hj)
        rwa [show k + 1 + j = k + (j + 1) from by omega] at this
  have hjn : j < n := by rw [← hn]; exact (List.getElem?_eq_some_iff.1 hj).1
  rcases key L 0 hf j oj hj with h1 | h1 | h1 | h1
  · rw [Nat.zero_add] at h1; rw [h.getD hjn, h1] at hun; cases hun
  · rw [Nat.zero_add] at h1; exact absurd h1 hji
  · rwa [Nat.zero_add] at h1
  · obtain ⟨e, he, hb⟩ := List.any_eq_true.1 h1
    simp only [Bool.and_eq_true] at hb
    exact absurd (by simpa using hb.2) (hno e (Array.mem_toList_iff.1 he) (by rw [bindsAny_eq]; exact hb.1))
theorem yieldsIf_wpOpW {i : Nat} {o : Oper} {v : Value} {a : Act} (hi : ops[i]? = some o) (hy : YieldsIf P ops S o v a)
    {K : Act → World → Prop} {w : World} (hS : S w) (h : K (a.put o.dst v) w) : wpOpIn Fence.wide 0 P ops Q i K a w := by
  unfold Go.wpOpIn
  simp only [hi]
  rcases hy with ⟨hw, hv⟩ | ⟨hw, rfl⟩
  · simp only [hw, if_true, Oper.wpIn, Fence.wide_round, Oper.semAt_none, hv w hS, Oper.uponIn]; exact ⟨fun _ _ => trivial, h⟩
  · simp only [hw, Bool.false_eq_true, if_false]; exact ⟨fun _ _ => trivial, h⟩
theorem wpOpW_putIf {j : Nat} {oi oj : Oper} {v : Value} (hj : ops[j]? = some oj) (hap : oi.apart ops oj = true)
    (hsi : ∀ cs b, oi.op ≠ .select cs b) (hsj : ∀ cs b, oj.op ≠ .select cs b)
    (hQ : ∀ c a w, Q (.panic c) (a.put oi.dst v) w → Q (.panic c) a w) {K : Act → World → Prop} {a : Act} {w : World}
    (hy : YieldsIf P ops S oi v a) (h : wpOpIn Fence.wide 0 P ops Q j K (a.put oi.dst v) w) :
    wpOpIn Fence.wide 0 P ops Q j (fun a' w' => YieldsIf P ops S oi v a' ∧ K (a'.put oi.dst v) w') a w := by
  obtain ⟨h1, h2, h3⟩ := Oper.apart_spec hap
  have keep : ∀ (a : Act), YieldsIf P ops S oi v a → ∀ u, YieldsIf P ops S oi v (a.put oj.dst u) := fun a hy u =>
    hy.of_same (execOp_put oi hsi a oj.dst u h3) (wanted_put oi a oj.dst u h3)
  have keepD : ∀ d, YieldsIf P ops S oi v { a with defers := d :: a.defers } := fun d => hy.of_same rfl rfl
  unfold wpOpIn at *
  simp only [hj] at *
  rw [wanted_put oj a oi.dst v h1] at h
  split
  · rename_i hw
    simp only [hw, if_true] at h
    unfold Oper.wpIn at *
    refine ⟨fun _ _ => trivial, ?_⟩
    have h := h.2
    rw [Fence.wide_round, Oper.semAt_none, execOp_put oj hsj a oi.dst v h1] at h
    rw [Fence.wide_round, Oper.semAt_none]
    generalize (execOp a.eval oj).run P w = r at *
    cases r with
    | ok x w' =>
      cases x <;> simp only [Oper.uponIn] at h ⊢
      case value u => exact ⟨keep a hy u, by rw [← Act.put_comm a v u h2]; exact h⟩
      case skip => exact ⟨keep a hy _, by rw [← Act.put_comm a v undef h2]; exact h⟩
      case defer d =>
        refine ⟨keep _ (keepD d) _, ?_⟩
        rw [← Act.put_comm _ v undef h2, ← Act.put_defers]
        exact h
      case enter f args =>
        refine ⟨h.1, CallsIn.mono h.2 fun e w'' he => ?_⟩
        cases e with
        | returned u => exact ⟨keep a hy u, by rw [← Act.put_comm a v u h2]; exact he⟩
        | panicked c => exact hQ _ _ _ he
        | outgrown => exact he
      case row row args => exact ⟨h.1, RowsIn.mono h.2 fun u w'' he => ⟨keep a hy u, by rw [← Act.put_comm a v u h2]; exact he⟩⟩
      case round l f tmps assign body =>
        refine ⟨h.1, RoundIn.mono h.2 fun e w'' he => ?_⟩
        cases e with
        | returned u => exact ⟨keep a hy u, by rw [← Act.put_comm a v u h2]; exact he⟩
        | panicked c => exact hQ _ _ _ he
        | outgrown => exact he
    | halt x w' =>
      cases x <;> simp only [Oper.uponIn] at h ⊢
      case panic u => exact hQ _ _ _ h
  · rename_i hw
    simp only [hw] at h
    exact ⟨fun _ _ => trivial, keep a hy _, by rw [← Act.put_comm a v undef h2]; exact h.2⟩
def KpW (S T : World → Prop) (kp kq j : Nat) (w w' : World) : Prop := (kp.testBit j = true → S w') ∧ (kq.testBit j = true → T w → T w')
def wpAnyN (P : Program) (md : Region.Mode) (ops : Array Oper) (Q : Exit → Act → World → Prop) (Kp : Nat → World → World → Prop) : Nat → Array Bool → Act → World → Prop
  | 0, listed, a, w => Region.ready md ops listed = [] ∧ Q .normal a w
  | fuel + 1, listed, a, w =>
    (Region.ready md ops listed = [] → Q .normal a w) ∧
    ∀ j ∈ Region.ready md ops listed, wpOpIn Fence.wide 0 P ops Q j (fun a' w' => Kp j w w' ∧ wpAnyN P md ops Q Kp fuel (listed.setIfInBounds j true) a' w') a w
theorem wpAny_of_N {Kp : Nat → World → World → Prop} : ∀ (fuel : Nat) (listed : Array Bool) (a : Act) (w : World), wpAnyN P md ops Q Kp fuel listed a w → wpAnyIn Fence.wide 0 P md ops Q fuel listed a w
  | 0, _, _, _, h => h
  | fuel + 1, _, _, _, h => ⟨h.1, fun i hi => wpOpIn_mono (fun a' w' h' => wpAny_of_N fuel _ a' w' h'.2) (h.2 i hi)⟩
theorem wpAnyN_first {Kp : Nat → World → World → Prop} {i : Nat} {oi : Oper} {v : Value} (R : World → Prop) (hi : ops[i]? = some oi) (hsel : ∀ (j : Nat) (o : Oper) cs b, ops[j]? = some o → o.op ≠ .select cs b)
    (hQ : ∀ c a w, Q (.panic c) (a.put oi.dst v) w → Q (.panic c) a w) (hRS : ∀ w, R w → Kp i w w) :
    ∀ (fuel : Nat) (listed : Array Bool) (a : Act) (w : World),
      (∀ j oj, ops[j]? = some oj → j ≠ i → listed.getD j true = false → (∀ e ∈ oj.after, Region.binds md e = true → e.on ≠ i) → oi.apart ops oj = true) →
      (∀ j oj, ops[j]? = some oj → j ≠ i → listed.getD j true = false → (∀ e ∈ oj.after, Region.binds md e = true → e.on ≠ i) → ∀ w w', R w → Kp j w w' → R w') →
      i ∈ Region.ready md ops listed → YieldsIf P ops R oi v a → R w →
      wpAnyN P md ops Q Kp fuel (listed.setIfInBounds i true) (a.put oi.dst v) w → wpAnyN P md ops Q Kp (fuel + 1) listed a w := by
  intro fuel
  induction fuel with
  | zero =>
    intro listed a w _ _ hr hy hR H
    refine ⟨fun h => absurd hr (by rw [h]; simp), fun j hj => ?_⟩
    by_cases hji : j = i
    · subst hji; exact yieldsIf_wpOpW hi hy hR ⟨hRS _ hR, H⟩
    · exact absurd (ready_mono hj hji) (by rw [H.1]; simp)
  | succ fuel ih =>
    intro listed a w hfree hkeep hr hy hR H
    refine ⟨fun h => absurd hr (by rw [h]; simp), fun j hj => ?_⟩
    by_cases hji : j = i
    · subst hji; exact yieldsIf_wpOpW hi hy hR ⟨hRS _ hR, H⟩
    · obtain ⟨hun, oj, hoj, hall⟩ := mem_ready.1 hj
      have hiun := (mem_ready.1 hr).1
      have hno : ∀ e ∈ oj.after, Region.binds md e = true → e.on ≠ i := fun e he hb heq => by
        have h1 := hall e he hb
        rw [heq] at h1
        rcases Nat.lt_or_ge i listed.size with h' | h'
        · simp [h'] at hiun h1; rw [hiun] at h1; cases h1
        · simp [Array.getElem?_eq_none h'] at h1
      have h2 := wpOpW_putIf (S := R) hoj (hfree j oj hoj hji hun hno) (fun cs b => hsel i oi cs b hi) (fun cs b => hsel j oj cs b hoj) hQ hy (H.2 j (ready_mono hj hji))
      have later : ∀ k, (listed.setIfInBounds j true).getD k true = false → listed.getD k true = false := fun k hk => by
        by_cases e : j = k
        · subst e; exact hun
        · rwa [getD_set_ne true e] at hk
      refine wpOpIn_mono (fun a' w' h3 => ⟨h3.2.1, ih (listed.setIfInBounds j true) a' w' (fun k ok hok hki hu => hfree k ok hok hki (later k hu)) (fun k ok hok hki hu => hkeep k ok hok hki (later k hu))
        (ready_mono hr (Ne.symm hji)) h3.1 (hkeep j oj hoj hji hun hno w w' hR h3.2.1) ?_⟩) h2
      rw [Array.setIfInBounds_comm _ _ hji]; exact h3.2.2
structure ST where
  s : World → Prop
  t : World → Prop
def wpS (P : Program) (ops : Array Oper) (Q : Exit → Act → World → Prop) (S : ST) : Sc → Act → World → Prop
  | .nil, a, w => Q .normal a w
  | .cons 0 i l, a, w => ∃ o v, ops[i]? = some o ∧ YieldsIf P ops (fun _ => True) o v a ∧ wpS P ops Q S l (a.put o.dst v) w
  | .cons 1 i l, a, w => S.s w ∧ ∃ o v, ops[i]? = some o ∧ YieldsIf P ops S.s o v a ∧ wpS P ops Q S l (a.put o.dst v) w
  | .cons 4 i l, a, w => (S.s w ∧ S.t w) ∧ ∃ o v, ops[i]? = some o ∧ YieldsIf P ops (fun w => S.s w ∧ S.t w) o v a ∧ wpS P ops Q S l (a.put o.dst v) w
  | .cons 2 i l, a, w => wpOpIn Fence.wide 0 P ops Q i (fun a' w' => S.s w' ∧ wpS P ops Q S l a' w') a w
  | .cons 6 i l, a, w => wpOpIn Fence.wide 0 P ops Q i (fun a' w' => (S.s w' ∧ S.t w') ∧ wpS P ops Q S l a' w') a w
  | .cons _ i l, a, w => wpOpIn Fence.wide 0 P ops Q i (fun a' w' => wpS P ops Q S l a' w') a w
  | .fork x y, a, w => wpS P ops Q S x a w ∧ wpS P ops Q S y a w
def kpBits : Sc → Nat
  | .nil => 0
  | .cons 1 i l => 2 ^ i ||| kpBits l
  | .cons 2 i l => 2 ^ i ||| kpBits l
  | .cons 4 i l => 2 ^ i ||| kpBits l
  | .cons 6 i l => 2 ^ i ||| kpBits l
  | .cons _ _ l => kpBits l
  | .fork a b => kpBits a ||| kpBits b
def kqBits : Sc → Nat
  | .nil => 0
  | .cons 0 i l => 2 ^ i ||| kqBits l
  | .cons 1 i l => 2 ^ i ||| kqBits l
  | .cons 4 i l => 2 ^ i ||| kqBits l
  | .cons 6 i l => 2 ^ i ||| kqBits l
  | .cons _ _ l => kqBits l
  | .fork a b => kqBits a ||| kqBits b
def kpOk (kp kq : Nat) : Sc → Bool
  | .nil => true
  | .cons 1 _ l => kpOk kp kq l
  | .cons 2 i l => !kq.testBit i && kpOk kp kq l
  | .cons 4 _ l => kpOk kp kq l
  | .cons 6 _ l => kpOk kp kq l
  | .cons 0 i l => !kp.testBit i && kpOk kp kq l
  | .cons _ i l => !kp.testBit i && !kq.testBit i && kpOk kp kq l
  | .fork a b => kpOk kp kq a && kpOk kp kq b
def onsOk (n : Nat) : List Oper → Bool
  | [] => true
  | o :: l => o.after.toList.all (fun e => Nat.blt e.on n) && onsOk n l
theorem onsOk_spec {n : Nat} : ∀ {L : List Oper}, onsOk n L = true → ∀ o ∈ L, o.after.toList.all (fun e => Nat.blt e.on n) = true
  | [], _, o, ho => by cases ho
  | x :: l, h, o, ho => by
    simp only [onsOk, Bool.and_eq_true] at h
    rcases List.mem_cons.1 ho with rfl | ho
    · exact h.1
    · exact onsOk_spec h.2 o ho
def Heads (P : Program) (L : List Oper) (Q : Exit → Act → World → Prop) (Kp : Nat → World → World → Prop) (f : Nat) (listed : Array Bool) (a : Act) (w : World) (t : Sc) : Prop :=
  ∀ j ∈ t.heads, j ∈ Region.ready .any L.toArray listed ∧ wpOpIn Fence.wide 0 P L.toArray Q j (fun a' w' => Kp j w w' ∧ wpAnyN P .any L.toArray Q Kp f (listed.setIfInBounds j true) a' w') a w
theorem depth_fork (a b : Sc) : a.depth ≤ (Sc.fork a b).depth ∧ b.depth ≤ (Sc.fork a b).depth := by
  simp only [Sc.depth]
  cases h : Nat.ble a.depth b.depth
  · have : ¬ a.depth ≤ b.depth := fun h' => by rw [Nat.ble_eq_true_of_le h'] at h; cases h
    simp only [cond_false]; omega
  · have := Nat.le_of_ble_eq_true h
    simp only [cond_true]; omega
theorem heads_ne {S : ST} {L : List Oper} {n kp kq : Nat} : ∀ (t : Sc) (m : Nat), schedOk L.toArray L n kp kq t true m = true → t.heads ≠ []
  | .nil, m, h => by simp [schedOk] at h
  | .cons _ _ _, m, h => by simp [Sc.heads]
  | .fork a b, m, h => by
    simp only [schedOk, Bool.and_eq_true] at h
    have := heads_ne (S := S) (n := n) (kp := kp) (kq := kq) a m h.1.2
    simp [Sc.heads, this]
theorem wpAnyN_sched {S : ST} {L : List Oper} {n kp kq : Nat} (hn : L.length = n) (hw : ∀ o ∈ L, o.after.toList.all (fun e => Nat.blt e.on n) = true) (hs : Region.noSelect L.toArray = true)
    (hQ : ∀ d v c a w, Q (.panic c) (a.put d v) w → Q (.panic c) a w) :
    ∀ (t : Sc) (c : Bool) (listed : Array Bool) (m : Nat) (a : Act) (w : World), Rep n listed m → schedOk L.toArray L n kp kq t c m = true → kpOk kp kq t = true → wpS P L.toArray Q S t a w → ∀ f, t.depth ≤ f →
      cond c (∀ g, f = g + 1 → Heads P L Q (KpW S.s S.t kp kq) g listed a w t) (wpAnyN P .any L.toArray Q (KpW S.s S.t kp kq) f listed a w)
  | .nil, c, listed, m, a, w, hr, hc, _, h, f, _ => by
    simp only [schedOk, Bool.and_eq_true, Bool.not_eq_true'] at hc
    obtain ⟨rfl, hc⟩ := hc
    have h0 := none_of hn hr hc
    simp only [cond_false]
    cases f with
    | zero => exact ⟨h0, h⟩
    | succ f => exact ⟨fun _ => h, by rw [h0]; simp⟩
  | .fork x y, c, listed, m, a, w, hr, hc, hkp, h, f, hf => by
    simp only [schedOk, Bool.and_eq_true, Bool.or_eq_true] at hc
    simp only [kpOk, Bool.and_eq_true] at hkp
    obtain ⟨hfx, hfy⟩ := depth_fork x y
    have hx := wpAnyN_sched hn hw hs hQ x true listed m a w hr hc.1.2 hkp.1 h.1 f (by omega)
    have hy := wpAnyN_sched hn hw hs hQ y true listed m a w hr hc.2 hkp.2 h.2 f (by omega)
    simp only [cond_true] at hx hy
    have both : ∀ g, f = g + 1 → Heads P L Q (KpW S.s S.t kp kq) g listed a w (.fork x y) := fun g hg j hj => by
      rcases List.mem_append.1 hj with hj | hj
      · exact hx g hg j hj
      · exact hy g hg j hj
    cases c with
    | true => exact both
    | false =>
      simp only [cond_false]
      have hcov : onlyB n m (x.heads ++ y.heads) L 0 = true := by simpa using hc.1.1
      have honly := only_of hn hr hw hcov
      have hne := heads_ne (S := S) (.fork x y) m (by simp only [schedOk, Bool.true_or, Bool.true_and, Bool.and_eq_true]; exact ⟨hc.1.2, hc.2⟩)
      cases f with
      | zero =>
        exfalso
        cases x with
        | nil => simp [schedOk] at hc
        | cons k i l =>
          have h1 : (Sc.cons k i l).depth = l.depth + 1 := rfl
          omega
        | fork p q =>
          have key : ∀ t : Sc, schedOk L.toArray L n kp kq t true m = true → 0 < t.depth := by
            intro t
            induction t with
            | nil => intro h; simp [schedOk] at h
            | cons k i l => intro _; simp [Sc.depth]
            | fork p q ih1 _ =>
              intro h
              simp only [schedOk, Bool.and_eq_true] at h
              have h1 := ih1 h.1.2
              have := (depth_fork p q).1
              omega
          have := key _ hc.1.2
          omega
      | succ g =>
        refine ⟨fun h0 => ?_, fun j hj => (both g rfl j (honly j hj)).2⟩
        obtain ⟨j, hj⟩ := List.exists_mem_of_ne_nil _ hne
        have := (both g rfl j hj).1
        rw [h0] at this; cases this
  | .cons k i l, c, listed, m, a, w, hr, hc, hkp, h, f, hf => by
    obtain ⟨f, rfl⟩ : ∃ k, f = k + 1 := ⟨f - 1, by simp only [Sc.depth] at hf; omega⟩
    have hf' : l.depth ≤ f := by simpa [Sc.depth] using hf
    have write : ∀ (G : Act → World → Prop), (∀ a' w', G a' w' → KpW S.s S.t kp kq i w w' ∧ wpS P L.toArray Q S l a' w') → (match L[i]? with | some o => !m.testBit i && edgesIn n m o | none => false) = true → (c || onlyB n m [i] L 0) = true → schedOk L.toArray L n kp kq l false (m ||| 2 ^ i) = true → kpOk kp kq l = true →
        wpOpIn Fence.wide 0 P L.toArray Q i G a w →
        cond c (∀ g, f + 1 = g + 1 → Heads P L Q (KpW S.s S.t kp kq) g listed a w (.cons k i l)) (wpAnyN P .any L.toArray Q (KpW S.s S.t kp kq) (f + 1) listed a w) := by
      intro G hG h0 h2 h3 hkl hop
      have hmem : i ∈ Region.ready .any L.toArray listed := by
        cases hoi : L[i]? with
        | none => rw [hoi] at h0; cases h0
        | some o =>
          rw [hoi] at h0
          simp only [Bool.and_eq_true, Bool.not_eq_true'] at h0
          exact (mem_ready_iff hn hr hw hoi).2 h0
      have go : wpOpIn Fence.wide 0 P L.toArray Q i (fun a' w' => KpW S.s S.t kp kq i w w' ∧ wpAnyN P .any L.toArray Q (KpW S.s S.t kp kq) f (listed.setIfInBounds i true) a' w') a w :=
        wpOpIn_mono (fun a' w' hg => ⟨(hG a' w' hg).1, wpAnyN_sched hn hw hs hQ l false _ _ a' w' (hr.set i) h3 hkl (hG a' w' hg).2 f hf'⟩) hop
      cases c with
      | true =>
        intro g hg j hj
        have hg' : f = g := by omega
        subst hg'
        obtain rfl : j = i := by simpa [Sc.heads] using hj
        exact ⟨hmem, go⟩
      | false =>
        have honly := only_of hn hr hw (by simpa using h2)
        refine ⟨fun h => absurd hmem (by rw [h]; simp), fun j hj => ?_⟩
        obtain rfl : j = i := by simpa using honly j hj
        exact go
    match k, hc, hkp, h with
    | 0, hc, hkp, h =>
      obtain ⟨o, v, ho, hy, h⟩ := h
      have ho' : L[i]? = some o := by simpa using ho
      simp only [schedOk, ho', Bool.and_eq_true, Bool.not_eq_true'] at hc
      obtain ⟨⟨rfl, ⟨h0, h1⟩, h2⟩, h3⟩ := hc
      simp only [kpOk, Bool.and_eq_true, Bool.not_eq_true'] at hkp
      exact wpAnyN_first (fun _ => True) ho (Region.noSelect_spec hs) (fun c a w => hQ _ _ c a w) (fun _ _ => ⟨fun h => (by rw [hkp.1] at h; cases h), fun _ h => h⟩) f listed a w (Region.free_spec ho (free_of hn hr ho' h2)) (fun _ _ _ _ _ _ _ _ _ _ => trivial)
        ((mem_ready_iff hn hr hw ho').2 ⟨h0, h1⟩) hy trivial (wpAnyN_sched hn hw hs hQ l false _ _ _ w (hr.set i) h3 hkp.2 h f hf')
    | 1, hc, hkp, h =>
      obtain ⟨hS, o, v, ho, hy, h⟩ := h
      have ho' : L[i]? = some o := by simpa using ho
      simp only [schedOk, ho', Bool.and_eq_true, Bool.not_eq_true'] at hc
      obtain ⟨⟨rfl, ⟨⟨h0, h1⟩, h2⟩, h4⟩, h3⟩ := hc
      simp only [kpOk] at hkp
      exact wpAnyN_first S.s ho (Region.noSelect_spec hs) (fun c a w => hQ _ _ c a w) (fun _ h => ⟨fun _ => h, fun _ h => h⟩) f listed a w (Region.free_spec ho (free_of hn hr ho' h2))
        (fun j oj hj hji hun hno w w' _ hk => hk.1 (kept_of hn hr h4 j oj (by simpa using hj) hji hun hno))
        ((mem_ready_iff hn hr hw ho').2 ⟨h0, h1⟩) hy hS (wpAnyN_sched hn hw hs hQ l false _ _ _ w (hr.set i) h3 hkp h f hf')
    | 4, hc, hkp, h =>
      obtain ⟨hS, o, v, ho, hy, h⟩ := h
      have ho' : L[i]? = some o := by simpa using ho
      simp only [schedOk, ho', Bool.and_eq_true, Bool.not_eq_true'] at hc
      obtain ⟨⟨rfl, ⟨⟨⟨h0, h1⟩, h2⟩, h4⟩, h5⟩, h3⟩ := hc
      simp only [kpOk] at hkp
      exact wpAnyN_first (fun w => S.s w ∧ S.t w) ho (Region.noSelect_spec hs) (fun c a w => hQ _ _ c a w) (fun _ h => ⟨fun _ => h.1, fun _ h => h⟩) f listed a w (Region.free_spec ho (free_of hn hr ho' h2))
        (fun j oj hj hji hun hno w w' hR hk => ⟨hk.1 (kept_of hn hr h4 j oj (by simpa using hj) hji hun hno), hk.2 (kept_of hn hr h5 j oj (by simpa using hj) hji hun hno) hR.2⟩)
        ((mem_ready_iff hn hr hw ho').2 ⟨h0, h1⟩) hy hS (wpAnyN_sched hn hw hs hQ l false _ _ _ w (hr.set i) h3 hkp h f hf')
    | 2, hc, hkp, h =>
      simp only [schedOk] at hc
      rw [Bool.and_eq_true, Bool.and_eq_true] at hc
      simp only [kpOk, Bool.and_eq_true, Bool.not_eq_true'] at hkp
      exact write _ (fun a' w' hg => ⟨⟨fun _ => hg.1, fun h => (by rw [hkp.1] at h; cases h)⟩, hg.2⟩) hc.1.1 hc.1.2 hc.2 hkp.2 h
    | 6, hc, hkp, h =>
      simp only [schedOk] at hc
      rw [Bool.and_eq_true, Bool.and_eq_true] at hc
      exact write _ (fun a' w' hg => ⟨⟨fun _ => hg.1.1, fun _ _ => hg.1.2⟩, hg.2⟩) hc.1.1 hc.1.2 hc.2 (by simpa [kpOk] using hkp) h
    | 3, hc, hkp, h =>
      simp only [schedOk] at hc
      rw [Bool.and_eq_true, Bool.and_eq_true] at hc
      simp only [kpOk, Bool.and_eq_true, Bool.not_eq_true'] at hkp
      exact write _ (fun a' w' hg => ⟨⟨fun hb => (by rw [hkp.1.1] at hb; cases hb), fun hb => (by rw [hkp.1.2] at hb; cases hb)⟩, hg⟩) hc.1.1 hc.1.2 hc.2 hkp.2 h
    | 5, hc, hkp, h =>
      simp only [schedOk] at hc
      rw [Bool.and_eq_true, Bool.and_eq_true] at hc
      simp only [kpOk, Bool.and_eq_true, Bool.not_eq_true'] at hkp
      exact write _ (fun a' w' hg => ⟨⟨fun hb => (by rw [hkp.1.1] at hb; cases hb), fun hb => (by rw [hkp.1.2] at hb; cases hb)⟩, hg⟩) hc.1.1 hc.1.2 hc.2 hkp.2 h
    | k + 7, hc, hkp, h =>
      simp only [schedOk] at hc
      rw [Bool.and_eq_true, Bool.and_eq_true] at hc
      simp only [kpOk, Bool.and_eq_true, Bool.not_eq_true'] at hkp
      exact write _ (fun a' w' hg => ⟨⟨fun hb => (by rw [hkp.1.1] at hb; cases hb), fun hb => (by rw [hkp.1.2] at hb; cases hb)⟩, hg⟩) hc.1.1 hc.1.2 hc.2 hkp.2 h
theorem wpOps_sched {a : Act} {w : World} {L : List Oper} (S : ST) (l : Sc) (n : Nat) (hm : P.follows .mixedOrders = true)
    (hc : (Nat.beq L.length n && onsOk n L && Region.noSelect L.toArray && Nat.ble l.depth n && kpOk (kpBits l) (kqBits l) l && schedOk L.toArray L n (kpBits l) (kqBits l) l false 0) = true) (hQ : ∀ d v c a w, Q (.panic c) (a.put d v) w → Q (.panic c) a w)
    (h : wpS P L.toArray Q S l a w) (t : Nat) : wpOpsIn Fence.wide 0 P L.toArray Q (Region.schedule (P.follows .mixedOrders) L.toArray t) a w := by
  simp only [Bool.and_eq_true] at hc
  obtain ⟨⟨⟨⟨⟨h1, h2⟩, h3⟩, h4⟩, h6⟩, h5⟩ := hc
  have hn : L.length = n := by simpa using h1
  simp only [Region.schedule, hm, Bool.true_or, if_true]
  refine wpAnyIn_sound L.toArray.size t _ a _ (wpAny_of_N (Kp := KpW S.s S.t (kpBits l) (kqBits l)) _ _ _ _ ?_)
  rw [show L.toArray.size = n from by simpa using hn]
  exact wpAnyN_sched hn (onsOk_spec h2) h3 hQ l false _ 0 a w (Rep.zero n) h5 h6 h _ (by simpa [Nat.ble_eq] using h4)
variable {l : Sc} {i : Nat} {o : Oper} {a : Act} {w : World}
variable {S : ST}
theorem wpS_p {L : List Oper} {v : Value} (ho : L[i]? = some o) (hw : Region.wanted o (yielded L.toArray a.tmps) = true) (hv : ∀ w, True → (execOp a.eval o).run P w = .ok (.value v) w)
    (h : wpS P L.toArray Q S l (a.put o.dst v) w) : wpS P L.toArray Q S (.cons 0 i l) a w := ⟨o, v, by simpa using ho, .inl ⟨hw, hv⟩, h⟩
theorem wpS_q {L : List Oper} {v : Value} (ho : L[i]? = some o) (hw : Region.wanted o (yielded L.toArray a.tmps) = true) (hS : S.s w) (hv : ∀ w, S.s w → (execOp a.eval o).run P w = .ok (.value v) w)
    (h : wpS P L.toArray Q S l (a.put o.dst v) w) : wpS P L.toArray Q S (.cons 1 i l) a w := ⟨hS, o, v, by simpa using ho, .inl ⟨hw, hv⟩, h⟩
theorem wpS_t {L : List Oper} {v : Value} (ho : L[i]? = some o) (hw : Region.wanted o (yielded L.toArray a.tmps) = true) (hS : S.s w ∧ S.t w) (hv : ∀ w, (S.s w ∧ S.t w) → (execOp a.eval o).run P w = .ok (.value v) w)
    (h : wpS P L.toArray Q S l (a.put o.dst v) w) : wpS P L.toArray Q S (.cons 4 i l) a w := ⟨hS, o, v, by simpa using ho, .inl ⟨hw, hv⟩, h⟩
theorem wpS_no4 {L : List Oper} (ho : L[i]? = some o) (hw : Region.wanted o (yielded L.toArray a.tmps) = false) (hS : S.s w ∧ S.t w)
    (h : wpS P L.toArray Q S l (a.put o.dst undef) w) : wpS P L.toArray Q S (.cons 4 i l) a w := ⟨hS, o, undef, by simpa using ho, .inr ⟨hw, rfl⟩, h⟩
theorem wpS_g {L : List Oper} (ho : L[i]? = some o)
    (h : ∀ K : Act → World → Prop, Shut (∀ a w, (S.s w ∧ S.t w) → (S.s w → wpS P L.toArray Q S l a w) → K a w) → if Region.wanted o (yielded L.toArray a.tmps) = true then Oper.wpIn Fence.wide 0 P o a w K Q else ((∀ f, o.about P w a.eval = some f → Fence.wide.fn f) ∧ K (a.put o.dst undef) w)) :
    wpS P L.toArray Q S (.cons 6 i l) a w := wpOpIn_step (by simpa using ho) (fun K hK => h K (fun a w hS hW => hK a w ⟨hS, hW hS.1⟩))
theorem wpS_no {L : List Oper} (ho : L[i]? = some o) (hw : Region.wanted o (yielded L.toArray a.tmps) = false)
    (h : wpS P L.toArray Q S l (a.put o.dst undef) w) : wpS P L.toArray Q S (.cons 0 i l) a w := ⟨o, undef, by simpa using ho, .inr ⟨hw, rfl⟩, h⟩
theorem wpS_no1 {L : List Oper} (ho : L[i]? = some o) (hw : Region.wanted o (yielded L.toArray a.tmps) = false) (hS : S.s w)
    (h : wpS P L.toArray Q S l (a.put o.dst undef) w) : wpS P L.toArray Q S (.cons 1 i l) a w := ⟨hS, o, undef, by simpa using ho, .inr ⟨hw, rfl⟩, h⟩
theorem wpS_e {L : List Oper} (ho : L[i]? = some o)
    (h : ∀ K : Act → World → Prop, Shut (∀ a w, S.s w → (S.s w → wpS P L.toArray Q S l a w) → K a w) → if Region.wanted o (yielded L.toArray a.tmps) = true then Oper.wpIn Fence.wide 0 P o a w K Q else ((∀ f, o.about P w a.eval = some f → Fence.wide.fn f) ∧ K (a.put o.dst undef) w)) :
    wpS P L.toArray Q S (.cons 2 i l) a w := wpOpIn_step (by simpa using ho) (fun K hK => h K (fun a w hS hW => hK a w ⟨hS, hW hS⟩))
theorem wpS_f {L : List Oper} (ho : L[i]? = some o)
    (h : ∀ K : Act → World → Prop, Shut (∀ a w, wpS P L.toArray Q S l a w → K a w) → if Region.wanted o (yielded L.toArray a.tmps) = true then Oper.wpIn Fence.wide 0 P o a w K Q else ((∀ f, o.about P w a.eval = some f → Fence.wide.fn f) ∧ K (a.put o.dst undef) w)) :
    wpS P L.toArray Q S (.cons 3 i l) a w := wpOpIn_step (by simpa using ho) (fun K hK => h K (fun a w hW => hK a w hW))
end
end Go.Proofs.YtcopemgkjbaaeaaDoor
namespace Go.Proofs.YtcopemgkjbaaeaaDoor
set_option linter.all false
open Go.RowKit
theorem beq_no {i j : Nat} (e : ¬ i = j) : Nat.beq i j = false := by
  cases hb : Nat.beq i j with
  | false => rfl
  | true => exact absurd (Nat.eq_of_beq_eq_true hb) e
abbrev SM := List (Nat × Value)
def mkK : Nat := 1000000
def look : SM → Nat → Option Value
  | [], _ => none
  | (k, v) :: l, i => cond (Nat.beq k mkK) (look l i) (cond (Nat.beq k i) (some v) (look l i))
def markB : Value → Nat
  | .pointer (some a) => a.block
  | _ => 0
def mark_ (D : Nat) : Deferred := { target := .collected D, args := #[] }
def marks : SM → SM
  | [] => []
  | (k, v) :: m => cond (Nat.beq k mkK) ((k, v) :: marks m) (marks m)
def unmark : SM → SM
  | [] => []
  | (k, v) :: m => cond (Nat.beq k mkK) (unmark m) ((k, v) :: unmark m)
def marksOf : SM → List Nat
  | [] => []
  | (k, v) :: m => cond (Nat.beq k mkK) (markB v :: marksOf m) (marksOf m)
theorem marksOf_marks : ∀ m, marksOf (marks m) = marksOf m
  | [] => rfl
  | (k, v) :: m => by
    simp only [marks, marksOf]
    cases h : Nat.beq k mkK <;> simp [marksOf, h, marksOf_marks m]
theorem marksOf_unmark : ∀ m, marksOf (unmark m) = []
  | [] => rfl
  | (k, v) :: m => by
    simp only [unmark]
    cases h : Nat.beq k mkK <;> simp [marksOf, h, marksOf_unmark m]
theorem look_ne : ∀ {m : SM} {i v}, look m i = some v → Nat.beq i mkK = false
  | [], _, _, h => by cases h
  | (k, u) :: m, i, v, h => by
    simp only [look] at h
    cases hk : Nat.beq k mkK <;> simp only [hk, cond_true, cond_false] at h
    · cases hi : Nat.beq k i <;> simp only [hi, cond_true, cond_false] at h
      · exact look_ne h
      · rw [← Nat.eq_of_beq_eq_true hi]; exact hk
    · exact look_ne h
theorem look_marks : ∀ (m : SM) i, look (marks m) i = none
  | [], _ => rfl
  | (k, u) :: m, i => by
    simp only [marks]
    cases hk : Nat.beq k mkK <;> simp only [cond_true, cond_false]
    · exact look_marks m i
    · simp only [look, hk, cond_true]; exact look_marks m i
theorem look_unmark : ∀ (m : SM) i, look (unmark m) i = look m i
  | [], _ => rfl
  | (k, u) :: m, i => by
    simp only [unmark, look]
    cases hk : Nat.beq k mkK <;> simp only [cond_true, cond_false]
    · simp only [look, hk, cond_false, look_unmark m i]
    · exact look_unmark m i
def opv (m : SM) : Operand → Option Value
  | .tmp t => look m t
  | .const v => some v
  | .global g => some (.pointer (some ⟨g, 0, none⟩))
  | .func f => some (.func (.func f) #[] #[])
structure Slots (n : Nat) (a : Act) (m : SM) : Prop where
  defers : a.defers = (marksOf m).map mark_
  size : a.tmps.size = n
  small : n ≤ mkK
  get : ∀ i v, look m i = some v → a.tmps[i]? = some v
def Agrees (m : SM) (ρ : Operand → Value) : Prop := ∀ x v, opv m x = some v → ρ x = v
theorem Slots.agrees {n : Nat} {a : Act} {m : SM} (h : Slots n a m) : Agrees m a.eval := fun x v hx => by
  cases x with
  | tmp t => simp only [Act.eval, Array.getD_eq_getD_getElem?, h.get t v hx]; rfl
  | const u => simpa [opv, Act.eval] using hx
  | global g => simpa [opv, Act.eval] using hx
  | func f => simpa [opv, Act.eval] using hx
theorem Slots.put {n : Nat} {a : Act} {m : SM} (h : Slots n a m) {d : Nat} (hd : Nat.blt d n = true) (v : Value) : Slots n (a.put (some d) v) ((d, v) :: m) := by
  have hd' : d < n := by simpa [Nat.blt_eq] using hd
  refine ⟨?_, by simpa [Act.put] using h.size, h.small, fun i u hu => ?_⟩
  · have hb : Nat.beq d mkK = false := beq_no (by have := h.small; omega)
    simp only [marksOf, hb, cond_false]
    exact h.defers
  have hdk : Nat.beq d mkK = false := beq_no (by have := h.small; omega)
  simp only [Act.put, look, hdk, cond_false] at hu ⊢
  rw [Array.getElem?_setIfInBounds]
  by_cases e : d = i
  · subst e
    simp only [Nat.beq_refl, cond_true, Option.some.injEq] at hu
    subst hu
    simp [h.size, hd']
  · rw [if_neg e]
    have hb := beq_no e
    rw [hb] at hu
    exact h.get i u hu
def pick (m : SM) : List Nat → Option SM
  | [] => some (marks m)
  | i :: l => match look m i, pick m l with
    | some v, some r => some ((i, v) :: r)
    | _, _ => none
theorem pick_look {m : SM} : ∀ {l : List Nat} {r : SM}, pick m l = some r → ∀ i v, look r i = some v → look m i = some v
  | [], r, h, i, v, hl => by simp only [pick, Option.some.injEq] at h; subst h; rw [look_marks] at hl; cases hl
  | j :: l, r, h, i, v, hl => by
    simp only [pick] at h
    split at h
    · rename_i u r' hu hr
      injection h with h; subst h
      simp only [look, look_ne hu, cond_false] at hl
      by_cases e : j = i
      · subst e; simp only [Nat.beq_refl, cond_true] at hl; rw [← hl]; exact hu
      · have hb := beq_no e
        rw [hb] at hl
        exact pick_look hr i v hl
    · cases h
theorem pick_marks {m : SM} : ∀ {l : List Nat} {r : SM}, pick m l = some r → marksOf r = marksOf m
  | [], r, h => by simp only [pick, Option.some.injEq] at h; subst h; exact marksOf_marks m
  | j :: l, r, h => by
    simp only [pick] at h
    split at h
    · rename_i u r' hu hr
      injection h with h; subst h
      simp only [marksOf, look_ne hu, cond_false]
      exact pick_marks hr
    · cases h
theorem Slots.sub {n : Nat} {a : Act} {m r : SM} (h : Slots n a m) (hm : marksOf r = marksOf m) (hr : ∀ i v, look r i = some v → look m i = some v) : Slots n a r :=
  ⟨by rw [hm]; exact h.defers, h.size, h.small, fun i v hv => h.get i v (hr i v hv)⟩
theorem Slots.pick {n : Nat} {a : Act} {m r : SM} {l : List Nat} (h : Slots n a m) (hr : pick m l = some r) : Slots n a r := h.sub (pick_marks hr) (pick_look hr)
structure FrC where
  k : Nat
  ro : Option Nat
abbrev fen (ro : Option Nat) : Fence := { Fence.wide with round := ro }
theorem callsIn_fen {ro : Option Nat} {n : Nat} {P : Program} {f : FuncId} {args : Array Value} {w : World} {R : Ending → World → Prop} : CallsIn (fen ro) n P f args w R ↔ Calls P f args w R :=
  callsIn_wide (n := n)
theorem rowsIn_fen {ro : Option Nat} {n : Nat} {P : Program} {row : String} {args : Array Value} {w : World} {R : Value → World → Prop} (h : Rows P row args w R) : RowsIn (fen ro) n P row args w R :=
  fun c cs _ => let ⟨v, w', r, s⟩ := h c cs; ⟨v, w', r, (stepsIn_wide (P := P)).2 s⟩
def isDefer : Op → Bool
  | .defer _ => true
  | _ => false
theorem semAt_fen {ro : Option Nat} {ρ : Operand → Value} {o : Oper} (h : isDefer o.op = false) : Oper.semAt ro ρ o = execOp ρ o :=
  Oper.semAt_eq ro ρ o fun c e => by rw [e] at h; cases h
theorem opIn {ro : Option Nat} {P : Program} {o : Oper} {a : Act} {w : World} {next : Act → World → Prop} {Q : Exit → Act → World → Prop} (hd : isDefer o.op = false) (h : o.wp P a w next Q) : o.wpIn (fen ro) 0 P a w next Q := by
  refine ⟨fun _ _ => trivial, ?_⟩
  rw [show (fen ro).round = ro from rfl, semAt_fen hd]
  unfold Oper.wp at h
  generalize (execOp a.eval o).run P w = r at h
  unfold Oper.upon at h
  unfold Oper.uponIn
  split at h
  · exact h
  · exact h
  · exact h
  · exact ⟨fun h => (by cases h), callsIn_fen.2 h⟩
  · exact ⟨fun h => (by cases h), rowsIn_fen h⟩
  · exact h
  · exact h.elim
def noDefer : List Oper → Bool
  | [] => true
  | o :: l => !isDefer o.op && noDefer l
theorem noDefer_spec : ∀ {L : List Oper}, noDefer L = true → ∀ o ∈ L, isDefer o.op = false
  | [], _, o, ho => by cases ho
  | x :: l, h, o, ho => by
    simp only [noDefer, Bool.and_eq_true, Bool.not_eq_true'] at h
    rcases List.mem_cons.1 ho with rfl | ho
    · exact h.1
    · exact noDefer_spec h.2 o ho
theorem opIn0 {P : Program} {o : Oper} {a : Act} {w : World} {next : Act → World → Prop} {Q : Exit → Act → World → Prop} (h : o.wp P a w next Q) : o.wpIn Fence.wide 0 P a w next Q := by
  refine ⟨fun _ _ => trivial, ?_⟩
  rw [Fence.wide_round, Oper.semAt_none]
  unfold Oper.wp at h
  generalize (execOp a.eval o).run P w = r at h
  unfold Oper.upon at h
  unfold Oper.uponIn
  split at h
  · exact h
  · exact h
  · exact h
  · exact ⟨fun h => (by cases h), callsIn_fen (ro := none) |>.2 h⟩
  · exact ⟨fun h => (by cases h), rowsIn_fen (ro := none) h⟩
  · exact h
  · exact h.elim
theorem opInR {ro : Option Nat} {P : Program} {o : Oper} {a : Act} {w : World} {next : Act → World → Prop} {Q : Exit → Act → World → Prop} (hd : isDefer o.op = false) (h : o.wpIn Fence.wide 0 P a w next Q) : o.wpIn (fen ro) 0 P a w next Q := by
  refine ⟨fun _ _ => trivial, ?_⟩
  rw [show (fen ro).round = ro from rfl, semAt_fen hd]
  have h := h.2
  rw [Fence.wide_round, Oper.semAt_none] at h
  exact h
theorem wpOps_in {ro : Option Nat} {P : Program} {L : List Oper} {Q : Exit → Act → World → Prop} (hd : noDefer L = true) : ∀ (l : List Nat) (a : Act) (w : World), wpOpsIn Fence.wide 0 P L.toArray Q l a w → wpOpsIn (fen ro) 0 P L.toArray Q l a w
  | [], _, _, h => h
  | i :: l, a, w, h => by
    have ih := wpOps_in (ro := ro) (P := P) (Q := Q) hd l
    unfold wpOpsIn at h
    unfold wpOpsIn
    cases ho : (L.toArray)[i]? with
    | none => simp only [ho] at h ⊢; exact ih _ _ h
    | some o =>
      simp only [ho] at h ⊢
      have hod : isDefer o.op = false := noDefer_spec hd o (List.mem_of_getElem? (by simpa using ho))
      split at h
      · rename_i hw
        rw [if_pos hw]
        exact opInR hod (Oper.wpIn_mono (fun a w h => ih a w h) h)
      · rename_i hw
        rw [if_neg hw]
        exact ⟨fun _ _ => trivial, ih _ _ h.2⟩
section
variable {P : Program} {n : FrC}
abbrev SQ := Exit → SM → World → Prop
def lift (n : Nat) (Q : SQ) : Exit → Act → World → Prop
  | .panic _, _, _ => False
  | .outgrown, _, _ => False
  | e, a, w => ∃ m, Slots n a m ∧ Q e m w
def W (P : Program) (n : FrC) (c : Code) (Q : SQ) (m : SM) (w : World) : Prop := ∀ a, Slots n.k a m → c.wpIn (fen n.ro) 0 P (lift n.k Q) a w
def regQ (n : Nat) (K : SM → World → Prop) : Exit → Act → World → Prop
  | .normal, a, w => ∃ m, Slots n a m ∧ K m w
  | _, _, _ => False
def RP (P : Program) (n : FrC) (L : List Oper) (K : SM → World → Prop) (l : List Oper) (m : SM) (w : World) : Prop := ∀ a, Slots n.k a m → wpListIn (fen n.ro) 0 P L.toArray (regQ n.k K) l a w
def RS (P : Program) (n : FrC) (L : List Oper) (K : SM → World → Prop) (S : ST) (l : Sc) (m : SM) (w : World) : Prop := ∀ a, Slots n.k a m → wpS P L.toArray (regQ n.k K) S l a w
variable {Q : SQ} {m : SM} {w : World} {c c2 : Code} {L : List Oper} {K : SM → World → Prop} {S : ST}
def thenQ (P : Program) (n : FrC) (c : Code) (Q : SQ) : SQ
  | .normal, m, w => W P n c Q m w
  | e, m, w => Q e m w
theorem W_seq (h : W P n c (thenQ P n c2 Q) m w) : W P n (c.seq c2) Q m w := fun a ha => wpIn_seq (wpIn_mono (h a ha) fun e a w q => by
  cases e <;> first
    | exact q
    | (obtain ⟨m', hs, hq⟩ := q; exact hq a hs))
theorem W_region {id : Nat} (h : RP P n L (fun m w => Q .normal m w) L m w) : W P n (.region id L.toArray false) Q m w := fun a ha => wpIn_mono (wpIn_region_lit (h a ha)) fun e a w q => by
  cases e <;> first
    | exact q
    | exact q.elim
theorem W_regionS {id : Nat} (S : ST) (l : Sc) (k : Nat) (hm : P.follows .mixedOrders = true)
    (hc : (Nat.beq L.length k && onsOk k L && Region.noSelect L.toArray && Nat.ble l.depth k && kpOk (kpBits l) (kqBits l) l && schedOk L.toArray L k (kpBits l) (kqBits l) l false 0) = true)
    (h : RS P n L (fun m w => Q .normal m w) S l m w.drew) (hd : noDefer L = true := by kernel_rfl) : W P n (.region id L.toArray true) Q m w := fun a ha =>
  wpIn_mono (wpIn_region_draw fun t => wpOps_in (Q := regQ n.k fun m w => Q .normal m w) hd _ _ _ (wpOps_sched S l k hm hc (fun _ _ _ _ _ h => h) (h a ha) t)) fun e a w q => by
    cases e <;> first
      | exact q
      | exact q.elim
theorem W_skip (h : Q .normal m w) : W P n .skip Q m w := fun _ ha => wpIn_skip ⟨m, ha, h⟩
theorem W_ret (h : Q .ret m w) : W P n .ret Q m w := fun _ ha => wpIn_ret ⟨m, ha, h⟩
theorem W_exit {id : Nat} (h : Q (.exit id) m w) : W P n (.exit id) Q m w := fun _ ha => wpIn_exit ⟨m, ha, h⟩
def blockQ (id : Nat) (Q : SQ) : SQ
  | .exit j, m, w => cond (Nat.beq j id) (Q .normal m w) (Q (.exit j) m w)
  | e, m, w => Q e m w
theorem W_block {id : Nat} (h : W P n c (blockQ id Q) m w) : W P n (.block id c) Q m w := fun a ha => wpIn_block (wpIn_mono (h a ha) fun e a w q => by
  cases e with
  | exit j =>
    obtain ⟨m', hs, hq⟩ := q
    simp only [Exit.inBlock]
    simp only [blockQ] at hq
    by_cases e : j = id
    · subst e; simp only [Nat.beq_refl, cond_true] at hq; rw [if_pos rfl]; exact ⟨m', hs, hq⟩
    · have hb := beq_no e
      rw [hb] at hq; rw [if_neg e]; exact ⟨m', hs, hq⟩
  | _ => exact q)
theorem W_cond {x : Operand} {b : Bool} (hx : opv m x = some (.bool b)) (ht : b = true → W P n c Q m w) (hf : b = false → W P n c2 Q m w) : W P n (.cond x c c2) Q m w := fun a ha =>
  wpIn_cond_split (ha.agrees _ _ hx) (fun h => ht h a ha) (fun h => hf h a ha)
theorem W_true {x : Operand} (hx : opv m x = some (.bool true)) (h : W P n c Q m w) : W P n (.cond x c c2) Q m w := fun a ha => wpIn_cond_true (ha.agrees _ _ hx) (h a ha)
theorem W_false {x : Operand} (hx : opv m x = some (.bool false)) (h : W P n c2 Q m w) : W P n (.cond x c c2) Q m w := fun a ha => wpIn_cond_false (ha.agrees _ _ hx) (h a ha)
theorem W_pick (l : List Nat) {r : SM} (hr : pick m l = some r) (h : W P n c Q r w) : W P n c Q m w := fun a ha => h a (ha.pick hr)
theorem least_ex {p : Nat → Prop} : ∀ k, p k → ∃ k, p k ∧ ∀ j, p j → k ≤ j := by
  intro k
  induction k using Nat.strongRecOn with
  | _ k ih =>
    intro hk
    by_cases h : ∃ j, j < k ∧ p j
    · obtain ⟨j, hj, hp⟩ := h
      exact ih j hj hp
    · exact ⟨k, hk, fun j hp => by
        rcases Nat.lt_or_ge j k with h1 | h1
        · exact absurd ⟨j, h1, hp⟩ h
        · exact h1⟩
open Classical in
noncomputable def least (p : Nat → Prop) : Nat := if h : ∃ k, p k ∧ ∀ j, p j → k ≤ j then Classical.choose h else 0
theorem least_spec {p : Nat → Prop} {k : Nat} (hk : p k) : p (least p) ∧ ∀ j, p j → least p ≤ j := by
  have h := least_ex k hk
  unfold least
  rw [dif_pos h]
  exact Classical.choose_spec h
def loopQ (I : Nat → SM → World → Prop) (k : Nat) (Q : SQ) : SQ
  | .normal, m, w => ∃ k', k' < k ∧ I k' m w
  | e, m, w => Q e m w
theorem W_loop (I : Nat → SM → World → Prop) {k0 : Nat} (h0 : I k0 m w) (hI : ∀ k m w, I k m w → W P n c (loopQ I k Q) m w) : W P n (.loop c) Q m w := by
  intro a ha
  refine wpIn_loop (fun a w => ∃ k m, Slots n.k a m ∧ I k m w) (fun a w => least fun k => ∃ m, Slots n.k a m ∧ I k m w) ⟨k0, m, ha, h0⟩ ?_
  rintro a w ⟨k, hk⟩
  obtain ⟨⟨m1, hs1, hi1⟩, _⟩ := least_spec (p := fun k => ∃ m, Slots n.k a m ∧ I k m w) hk
  refine wpIn_mono (hI _ m1 w hi1 a hs1) fun e a' w' q => ?_
  cases e with
  | normal =>
    obtain ⟨m2, hs2, k', hk', hi2⟩ := q
    exact ⟨⟨k', m2, hs2, hi2⟩, Nat.lt_of_le_of_lt ((least_spec (p := fun k => ∃ m, Slots n.k a' m ∧ I k m w') ⟨m2, hs2, hi2⟩).2 k' ⟨m2, hs2, hi2⟩) hk'⟩
  | _ => exact q
end
end Go.Proofs.YtcopemgkjbaaeaaDoor
namespace Go.Proofs.YtcopemgkjbaaeaaDoor
set_option linter.all false
open Go.RowKit
section
variable {P : Program} {n : FrC} {Q : SQ} {m : SM} {w : World} {c c2 : Code} {L l : List Oper} {K : SM → World → Prop} {S : ST}
def numb : List Value → Nat → SM
  | [], _ => []
  | v :: l, i => (i, v) :: numb l (i + 1)
theorem numb_look : ∀ (l : List Value) (k i : Nat) (v : Value), look (numb l k) i = some v → k ≤ i ∧ l[i - k]? = some v
  | [], k, i, v, h => by simp [numb, look] at h
  | u :: l, k, i, v, h => by
    simp only [numb, look] at h
    cases hk : Nat.beq k mkK
    case true =>
      rw [hk] at h
      obtain ⟨h1, h2⟩ := numb_look l (k + 1) i v h
      refine ⟨by omega, ?_⟩
      rw [show i - k = (i - (k + 1)) + 1 from by omega]
      simpa using h2
    rw [hk, cond_false] at h
    by_cases e : k = i
    · subst e; simp only [Nat.beq_refl, cond_true] at h; simp [← h]
    · rw [beq_no e] at h
      obtain ⟨h1, h2⟩ := numb_look l (k + 1) i v h
      refine ⟨by omega, ?_⟩
      rw [show i - k = (i - (k + 1)) + 1 from by omega]
      simpa using h2
def Res (P : Program) (fn : Func) (m : SM) (w : World) (v : Value) : Prop := ∀ tmps : Array Value, (∀ i u, look m i = some u → tmps[i]? = some u) → (results fn tmps).run P w = .ok v w
def ShutAll (P : Program) (K : World → Prop) : List Nat → World → Prop
  | [], w => K w
  | D :: ds, w => ∃ w', (Instr.takeDeferred D).run P w = .ok [] w' ∧ ShutAll P K ds w'
def retQ (P : Program) (fn : Func) (R : Ending → World → Prop) : SQ
  | .ret, m, w => ShutAll P (fun w => ∃ v, Res P fn m w v ∧ R (.returned v) w) (marksOf m) w
  | .normal, m, w => ShutAll P (fun w => ∃ v, Res P fn m w v ∧ R (.returned v) w) (marksOf m) w
  | _, _, _ => False
theorem leaves_of {k : Nat} {ro : Option Nat} {fn : Func} {R : Ending → World → Prop} {m : SM} {a : Act} (hs : Slots k a m) : ∀ (ds : List Nat) (w : World), ShutAll P (fun w => ∃ v, Res P fn m w v ∧ R (.returned v) w) ds w →
    LeavesInM (fen ro) 0 P fn a.tmps R (ds.map mark_) .returning w
  | [], w, ⟨v, hr, hR⟩ => ⟨v, hr _ hs.get, hR⟩
  | D :: ds, w, ⟨w', h1, h2⟩ => ⟨by simp, .inl ⟨D, w', rfl, h1, leaves_of hs ds w' h2⟩⟩
theorem W_enter {k : Nat} {f : FuncId} {fn : Func} {args : List Value} {R : Ending → World → Prop} (hf : P.funcs[f]? = some fn) (hb : fn.body = some c) (hn : fn.ntmps = k) (hle : (Nat.ble args.length k && Nat.ble k mkK) = true)
    (h : W P ⟨k, none⟩ c (retQ P fn R) (numb args 0) w) (hm : marksOf (numb args 0) = [] := by rfl) : Calls P f args.toArray w R := by
  simp only [Bool.and_eq_true] at hle
  obtain ⟨hle, hsm⟩ := hle
  have hle' : args.length ≤ k := by simpa [Nat.ble_eq] using hle
  have hro : (fen none).round = none := rfl
  refine (callsIn_fen (ro := none) (n := 0)).1 (callsIn_of_wp_marks hf hb trivial (wpIn_mono (h _ ⟨by rw [hm]; rfl, ?_, by simpa [Nat.ble_eq] using hsm, fun i v hv => ?_⟩) fun e a w q => ?_))
  · rw [hn]; simp; omega
  · obtain ⟨_, h2⟩ := numb_look args 0 i v hv
    have hi : i < args.length := (List.getElem?_eq_some_iff.1 (by simpa using h2)).1
    rw [Array.getElem?_append_left (by simpa using hi)]
    simpa using h2
  · cases e with
    | normal => obtain ⟨m', hs, hq⟩ := q; simp only [bodyPostM]; rw [hs.defers]; exact leaves_of hs _ _ hq
    | ret => obtain ⟨m', hs, hq⟩ := q; simp only [bodyPostM]; rw [hs.defers]; exact leaves_of hs _ _ hq
    | panic ch => exact q.elim
    | outgrown => exact q.elim
    | exit id => obtain ⟨m', hs, hq⟩ := q; exact hq.elim
    | goto l => obtain ⟨m', hs, hq⟩ := q; exact hq.elim
def rvS (tmps : Array Value) : ResultVar → Sem Value
  | .tmp t => pure (tmps.getD t undef)
  | .cell a t => do loadVar t (← asAddr (tmps.getD a undef))
def RV (P : Program) (m : SM) (w : World) (r : ResultVar) (v : Value) : Prop := ∀ tmps : Array Value, (∀ i u, look m i = some u → tmps[i]? = some u) → (rvS tmps r).run P w = .ok v w
theorem results_eq (fn : Func) (tmps : Array Value) : results fn tmps = (do let vs ← fn.results.mapM (rvS tmps); pure (if h : vs.size = 1 then vs[0] else .tuple vs)) := by
  unfold results
  congr 1
theorem rv_tmp {t : Tmp} {v : Value} (h : look m t = some v) : RV P m w (.tmp t) v := fun tmps ht => by
  have := ht t v h
  simp [rvS, Array.getD_eq_getD_getElem?, this]
theorem rv_cell {a : Tmp} {t : TypeId} {ad : Addr} {v : Value} (h : look m a = some (.pointer (some ad))) (hv : (loadVar t ad).run P w = .ok v w) : RV P m w (.cell a t) v := fun tmps ht => by
  have := ht a _ h
  simp [rvS, Array.getD_eq_getD_getElem?, this, asAddr, hv]
theorem res0 {fn : Func} (h : fn.results = #[]) : Res P fn m w (.tuple #[]) := fun tmps _ => by simp [results, h]
theorem res1 {fn : Func} {r : ResultVar} {v : Value} (h : fn.results = #[r]) (h1 : RV P m w r v) : Res P fn m w v := fun tmps ht => by
  rw [results_eq, h]; simp [h1 tmps ht]
theorem res2 {fn : Func} {r1 r2 : ResultVar} {v1 v2 : Value} (h : fn.results = #[r1, r2]) (h1 : RV P m w r1 v1) (h2 : RV P m w r2 v2) : Res P fn m w (.tuple #[v1, v2]) := fun tmps ht => by
  rw [results_eq, h]; simp [h1 tmps ht, h2 tmps ht]
theorem res3 {fn : Func} {r1 r2 r3 : ResultVar} {v1 v2 v3 : Value} (h : fn.results = #[r1, r2, r3]) (h1 : RV P m w r1 v1) (h2 : RV P m w r2 v2) (h3 : RV P m w r3 v3) : Res P fn m w (.tuple #[v1, v2, v3]) := fun tmps ht => by
  rw [results_eq, h]; simp [h1 tmps ht, h2 tmps ht, h3 tmps ht]
def Ev (P : Program) (m : SM) (o : Oper) (w : World) (v : Value) : Prop := ∀ ρ : Operand → Value, Agrees m ρ → (execOp ρ o).run P w = .ok (.value v) w
theorem RP_nil (h : K m w) : RP P n L K [] m w := fun _ ha => ⟨m, ha, h⟩
theorem RP_q {d : Nat} {op : Op} {ty : TypeId} {pos : String} {af : Array Edge} {v : Value} (hd : Nat.blt d n.k = true) (hev : Ev P m ⟨some d, op, ty, pos, af, none⟩ w v)
    (h : RP P n L K l ((d, v) :: m) w) (hnd : isDefer op = false := by rfl) : RP P n L K (⟨some d, op, ty, pos, af, none⟩ :: l) m w := fun a ha => by
  unfold wpListIn
  rw [if_pos (by rfl)]
  refine opIn hnd ?_
  unfold Oper.wp
  rw [hev _ ha.agrees]
  exact h _ (ha.put hd v)
def gv (L : List Oper) (m : SM) (j : Nat) : Option Value := match L[j]? with
  | some o => (match o.dst with | some d => look m d | none => none)
  | none => none
theorem gv_yielded {a : Act} (ha : Slots n.k a m) {j : Nat} {b : Bool} (h : gv L m j = some (.bool b)) : yielded L.toArray a.tmps j = some b := by
  unfold gv at h
  unfold yielded
  rw [show (L.toArray)[j]? = L[j]? from by simp]
  cases hj : L[j]? with
  | none => simp [hj] at h
  | some o =>
    simp only [hj] at h
    cases hd : o.dst with
    | none => simp [hd] at h
    | some d =>
      simp only [hd] at h
      simp [hd, ha.get d _ h]
theorem RP_g {d j : Nat} {op : Op} {ty : TypeId} {pos : String} {af : Array Edge} {v : Value} {b : Bool} (hd : Nat.blt d n.k = true) (hg : gv L m j = some (.bool b)) (hev : Ev P m ⟨some d, op, ty, pos, af, some (j, b)⟩ w v)
    (h : RP P n L K l ((d, v) :: m) w) (hnd : isDefer op = false := by rfl) : RP P n L K (⟨some d, op, ty, pos, af, some (j, b)⟩ :: l) m w := fun a ha => by
  unfold wpListIn
  rw [if_pos (by simp [Region.wanted, gv_yielded ha hg])]
  refine opIn hnd ?_
  unfold Oper.wp
  rw [hev _ ha.agrees]
  exact h _ (ha.put hd v)
theorem RP_no {d j : Nat} {op : Op} {ty : TypeId} {pos : String} {af : Array Edge} {b b' : Bool} (hd : Nat.blt d n.k = true) (hg : gv L m j = some (.bool b)) (hne : b ≠ b')
    (h : RP P n L K l ((d, undef) :: m) w) : RP P n L K (⟨some d, op, ty, pos, af, some (j, b')⟩ :: l) m w := fun a ha => by
  unfold wpListIn
  rw [if_neg (by simp [Region.wanted, gv_yielded ha hg, hne])]
  exact ⟨fun _ _ => trivial, h _ (ha.put hd undef)⟩
theorem RP_pick (r : List Nat) {m' : SM} (hr : pick m r = some m') (h : RP P n L K l m' w) : RP P n L K l m w := fun a ha => h a (ha.pick hr)
theorem RS_nil (h : K m w) : RS P n L K S .nil m w := fun _ ha => ⟨m, ha, h⟩
theorem RS_fork {x y : Sc} (h : RS P n L K S x m w) (h' : RS P n L K S y m w) : RS P n L K S (.fork x y) m w := fun a ha => ⟨h a ha, h' a ha⟩
theorem RS_q {k : Sc} {i d : Nat} {op : Op} {ty : TypeId} {pos : String} {af : Array Edge} {v : Value} (hi : L[i]? = some ⟨some d, op, ty, pos, af, none⟩) (hd : Nat.blt d n.k = true) (hS : S.s w)
    (hev : ∀ w, S.s w → Ev P m ⟨some d, op, ty, pos, af, none⟩ w v) (h : RS P n L K S k ((d, v) :: m) w) : RS P n L K S (.cons 1 i k) m w := fun a ha =>
  wpS_q hi rfl hS (fun w hw => hev w hw _ ha.agrees) (h _ (ha.put hd v))
theorem RS_gq {k : Sc} {i d j : Nat} {op : Op} {ty : TypeId} {pos : String} {af : Array Edge} {v : Value} {b : Bool} (hi : L[i]? = some ⟨some d, op, ty, pos, af, some (j, b)⟩) (hd : Nat.blt d n.k = true) (hg : gv L m j = some (.bool b)) (hS : S.s w)
    (hev : ∀ w, S.s w → Ev P m ⟨some d, op, ty, pos, af, some (j, b)⟩ w v) (h : RS P n L K S k ((d, v) :: m) w) : RS P n L K S (.cons 1 i k) m w := fun a ha =>
  wpS_q hi (by simp [Region.wanted, gv_yielded ha hg]) hS (fun w hw => hev w hw _ ha.agrees) (h _ (ha.put hd v))
def after_ (m : SM) (dst : Option Nat) (v : Option Value) : SM := match dst, v with
  | some d, some v => (d, v) :: m
  | some d, none => (d, undef) :: m
  | none, _ => m
theorem Slots.after_ {a : Act} (ha : Slots n.k a m) {dst : Option Nat} (hd : ∀ d, dst = some d → Nat.blt d n.k = true) (v : Option Value) : Slots n.k (a.put dst (v.getD undef)) (after_ m dst v) := by
  cases dst with
  | none => exact ha
  | some d => cases v <;> exact ha.put (hd d rfl) _
theorem RS_noe {k : Sc} {i j : Nat} {dst : Option Nat} {op : Op} {ty : TypeId} {pos : String} {af : Array Edge} {b b' : Bool} (hi : L[i]? = some ⟨dst, op, ty, pos, af, some (j, b')⟩) (hd : ∀ d, dst = some d → Nat.blt d n.k = true) (hg : gv L m j = some (.bool b)) (hne : b ≠ b')
    (hS : S.s w) (h : RS P n L K S k (after_ m dst none) w) : RS P n L K S (.cons 2 i k) m w := fun a ha =>
  wpS_e hi fun Kk hK => by
    rw [if_neg (by simp [Region.wanted, gv_yielded ha hg, hne])]
    exact ⟨fun _ _ => trivial, hK.out _ _ hS fun _ => h _ (ha.after_ hd none)⟩
def Ef (P : Program) (m : SM) (o : Oper) (w : World) (G : Option Value → World → Prop) : Prop := ∀ ρ : Operand → Value, Agrees m ρ →
  (∃ v w', (execOp ρ o).run P w = .ok (.value v) w' ∧ G (some v) w') ∨ (∃ w', (execOp ρ o).run P w = .ok .skip w' ∧ G none w') ∨
  (∃ f args, (execOp ρ o).run P w = .ok (.enter f args) w ∧ Calls P f args w fun e w' => ∃ v, e = .returned v ∧ G (some v) w')
theorem Ef.wp {a : Act} (ha : Slots n.k a m) {o : Oper} {G : Option Value → World → Prop} (hef : Ef P m o w G) {Kk : Act → World → Prop} {Qx : Exit → Act → World → Prop}
    (hd : ∀ d, o.dst = some d → Nat.blt d n.k = true) (h : ∀ v w', G v w' → ∀ a', Slots n.k a' (after_ m o.dst v) → Kk a' w') : o.wp P a w Kk Qx := by
  unfold Oper.wp
  rcases hef _ ha.agrees with ⟨v, w', hr, hG⟩ | ⟨w', hr, hG⟩ | ⟨f, args, hr, hc⟩
  · rw [hr]; exact h _ _ hG _ (ha.after_ hd (some v))
  · rw [hr]; exact h _ _ hG _ (ha.after_ hd none)
  · rw [hr]
    refine hc.mono ?_
    rintro e w' ⟨v, rfl, hG⟩
    exact h _ _ hG _ (ha.after_ hd (some v))
theorem RP_e {dst : Option Nat} {op : Op} {ty : TypeId} {pos : String} {af : Array Edge} {G : Option Value → World → Prop} (hd : (match dst with | some d => Nat.blt d n.k | none => true) = true) (hef : Ef P m ⟨dst, op, ty, pos, af, none⟩ w G)
    (h : ∀ v w', G v w' → RP P n L K l (after_ m dst v) w') (hnd : isDefer op = false := by rfl) : RP P n L K (⟨dst, op, ty, pos, af, none⟩ :: l) m w := fun a ha => by
  unfold wpListIn
  rw [if_pos (by rfl)]
  exact opIn hnd (hef.wp ha (fun d e => by simp only at e; subst e; exact hd) fun v w' hG a' ha' => h v w' hG a' ha')
theorem RP_ge {dst : Option Nat} {j : Nat} {b : Bool} {op : Op} {ty : TypeId} {pos : String} {af : Array Edge} {G : Option Value → World → Prop} (hd : (match dst with | some d => Nat.blt d n.k | none => true) = true) (hg : gv L m j = some (.bool b)) (hef : Ef P m ⟨dst, op, ty, pos, af, some (j, b)⟩ w G)
    (h : ∀ v w', G v w' → RP P n L K l (after_ m dst v) w') (hnd : isDefer op = false := by rfl) : RP P n L K (⟨dst, op, ty, pos, af, some (j, b)⟩ :: l) m w := fun a ha => by
  unfold wpListIn
  rw [if_pos (by simp [Region.wanted, gv_yielded ha hg])]
  exact opIn hnd (hef.wp ha (fun d e => by simp only at e; subst e; exact hd) fun v w' hG a' ha' => h v w' hG a' ha')
def EfY (P : Program) (m : SM) (o : Oper) (w : World) (G : Value → World → Prop) : Prop := ∀ ρ : Operand → Value, Agrees m ρ →
  ∃ l f tmps assign body, (execOp ρ o).run P w = .ok (.round l f tmps assign body) w ∧ RoundIn Fence.wide 0 P l f tmps assign body w fun e w' => ∃ v, e = .returned v ∧ G v w'
theorem opY {ro : Option Nat} {a : Act} (ha : Slots n.k a m) {o : Oper} {G : Value → World → Prop} {d : Nat} (hdst : o.dst = some d) (hd : Nat.blt d n.k = true) (hnd : isDefer o.op = false) (hef : EfY P m o w G) {Kk : Act → World → Prop} {Qx : Exit → Act → World → Prop}
    (h : ∀ v w', G v w' → ∀ a', Slots n.k a' ((d, v) :: m) → Kk a' w') : o.wpIn (fen ro) 0 P a w Kk Qx := by
  obtain ⟨l', f, tmps, assign, body, h1, h2⟩ := hef _ ha.agrees
  refine ⟨fun _ _ => trivial, ?_⟩
  rw [show (fen ro).round = ro from rfl, semAt_fen hnd, h1]
  refine ⟨fun h => (by cases h), RoundIn.mono (F := fen ro) h2 ?_⟩
  rintro e w' ⟨v, rfl, hG⟩
  rw [hdst]
  exact h v w' hG _ (ha.put hd v)
theorem RP_y {d : Nat} {op : Op} {ty : TypeId} {pos : String} {af : Array Edge} {G : Value → World → Prop} (hd : Nat.blt d n.k = true) (hef : EfY P m ⟨some d, op, ty, pos, af, none⟩ w G)
    (h : ∀ v w', G v w' → RP P n L K l ((d, v) :: m) w') (hnd : isDefer op = false := by rfl) : RP P n L K (⟨some d, op, ty, pos, af, none⟩ :: l) m w := fun a ha => by
  unfold wpListIn
  rw [if_pos (by rfl)]
  obtain ⟨l', f, tmps, assign, body, h1, h2⟩ := hef _ ha.agrees
  refine ⟨fun _ _ => trivial, ?_⟩
  rw [show (fen n.ro).round = n.ro from rfl, semAt_fen hnd, h1]
  refine ⟨fun h => (by cases h), RoundIn.mono (F := fen n.ro) h2 ?_⟩
  rintro e w' ⟨v, rfl, hG⟩
  exact h v w' hG _ (ha.put hd v)
theorem RS_e {k : Sc} {i : Nat} {dst : Option Nat} {op : Op} {ty : TypeId} {pos : String} {af : Array Edge} {G : Option Value → World → Prop} (hi : L[i]? = some ⟨dst, op, ty, pos, af, none⟩) (hd : (match dst with | some d => Nat.blt d n.k | none => true) = true)
    (hef : Ef P m ⟨dst, op, ty, pos, af, none⟩ w G) (h : ∀ v w', G v w' → S.s w' ∧ RS P n L K S k (after_ m dst v) w') : RS P n L K S (.cons 2 i k) m w := fun a ha =>
  wpS_e hi fun Kk hK => by
    rw [if_pos (by rfl)]
    exact opIn0 <| hef.wp ha (fun d e => by simp only at e; subst e; exact hd) fun v w' hG a' ha' => hK.out _ _ (h v w' hG).1 fun _ => (h v w' hG).2 a' ha'
theorem RS_gy {k : Sc} {i d j : Nat} {b : Bool} {op : Op} {ty : TypeId} {pos : String} {af : Array Edge} {G : Value → World → Prop} (hi : L[i]? = some ⟨some d, op, ty, pos, af, some (j, b)⟩) (hd : Nat.blt d n.k = true) (hg : gv L m j = some (.bool b))
    (hef : EfY P m ⟨some d, op, ty, pos, af, some (j, b)⟩ w G) (h : ∀ v w', G v w' → S.s w' ∧ RS P n L K S k ((d, v) :: m) w') (hnd : isDefer op = false := by rfl) : RS P n L K S (.cons 2 i k) m w := fun a ha =>
  wpS_e hi fun Kk hK => by
    rw [if_pos (by simp [Region.wanted, gv_yielded ha hg])]
    exact opY (n := n) (ro := none) ha rfl hd hnd hef fun v w' hG a' ha' => hK.out _ _ (h v w' hG).1 fun _ => (h v w' hG).2 a' ha'
theorem RS_e6 {k : Sc} {i : Nat} {dst : Option Nat} {op : Op} {ty : TypeId} {pos : String} {af : Array Edge} {G : Option Value → World → Prop} (hi : L[i]? = some ⟨dst, op, ty, pos, af, none⟩) (hd : (match dst with | some d => Nat.blt d n.k | none => true) = true)
    (hef : Ef P m ⟨dst, op, ty, pos, af, none⟩ w G) (h : ∀ v w', G v w' → (S.s w' ∧ S.t w') ∧ RS P n L K S k (after_ m dst v) w') : RS P n L K S (.cons 6 i k) m w := fun a ha =>
  wpS_g hi fun Kk hK => by
    rw [if_pos (by rfl)]
    exact opIn0 <| hef.wp ha (fun d e => by simp only at e; subst e; exact hd) fun v w' hG a' ha' => hK.out _ _ (h v w' hG).1 fun _ => (h v w' hG).2 a' ha'
theorem RS_f {k : Sc} {i : Nat} {dst : Option Nat} {op : Op} {ty : TypeId} {pos : String} {af : Array Edge} {G : Option Value → World → Prop} (hi : L[i]? = some ⟨dst, op, ty, pos, af, none⟩) (hd : (match dst with | some d => Nat.blt d n.k | none => true) = true)
    (hef : Ef P m ⟨dst, op, ty, pos, af, none⟩ w G) (h : ∀ v w', G v w' → RS P n L K S k (after_ m dst v) w') : RS P n L K S (.cons 3 i k) m w := fun a ha =>
  wpS_f hi fun Kk hK => by
    rw [if_pos (by rfl)]
    exact opIn0 <| hef.wp ha (fun d e => by simp only at e; subst e; exact hd) fun v w' hG a' ha' => hK.out _ _ (h v w' hG a' ha')
theorem RS_ge {k : Sc} {i j : Nat} {b : Bool} {dst : Option Nat} {op : Op} {ty : TypeId} {pos : String} {af : Array Edge} {G : Option Value → World → Prop} (hi : L[i]? = some ⟨dst, op, ty, pos, af, some (j, b)⟩) (hd : (match dst with | some d => Nat.blt d n.k | none => true) = true) (hg : gv L m j = some (.bool b))
    (hef : Ef P m ⟨dst, op, ty, pos, af, some (j, b)⟩ w G) (h : ∀ v w', G v w' → S.s w' ∧ RS P n L K S k (after_ m dst v) w') : RS P n L K S (.cons 2 i k) m w := fun a ha =>
  wpS_e hi fun Kk hK => by
    rw [if_pos (by simp [Region.wanted, gv_yielded ha hg])]
    exact opIn0 <| hef.wp ha (fun d e => by simp only at e; subst e; exact hd) fun v w' hG a' ha' => hK.out _ _ (h v w' hG).1 fun _ => (h v w' hG).2 a' ha'
end
end Go.Proofs.YtcopemgkjbaaeaaDoor
namespace Go.Proofs.YtcopemgkjbaaeaaDoor
set_option linter.all false
open Go.RowKit
inductive Stp where
  | p (v : Value)
  | l (t : TypeId) (ptr v : Value)
  | no
def Stp.val : Stp → Value
  | .p v => v
  | .l _ _ v => v
  | .no => undef
def rho (m : SM) : Operand → Value := fun x => (opv m x).getD undef
def allKnown (m : SM) : List Operand → Bool
  | [] => true
  | x :: l => (opv m x).isSome && allKnown m l
def guardIs (L : List Oper) (m : SM) (o : Oper) (want : Bool) : Bool := match o.guard with
  | none => want
  | some (j, g) => (match gv L m j with | some (.bool b) => (b == g) == want | some (.tuple _) => !want | _ => false)
def notSelect : Op → Bool
  | .select .. => false
  | .defer _ => false
  | _ => true
def isLoad : Op → Bool
  | .load .. => true
  | _ => false
def bchk1 (n : Nat) (L : List Oper) (m : SM) (o : Oper) : Stp → Bool
  | .p _ => guardIs L m o true && allKnown m o.op.operands.toList && notSelect o.op
  | .l _ _ _ => guardIs L m o true && allKnown m o.op.operands.toList && isLoad o.op
  | .no => guardIs L m o false
def dstOk (n : Nat) (o : Oper) : Bool := match o.dst with | some d => Nat.blt d n | none => false
def upd1 (m : SM) (o : Oper) (s : Stp) : SM := match o.dst with | some d => (d, s.val) :: m | none => m
def bchk (n : Nat) (L : List Oper) : SM → List Oper → List Stp → Bool
  | _, [], [] => true
  | m, o :: l, s :: st => bchk1 n L m o s && dstOk n o && bchk n L (upd1 m o s) l st
  | _, _, _ => false
def updS : SM → List Oper → List Stp → SM
  | m, o :: l, s :: st => updS (upd1 m o s) l st
  | m, _, _ => m
def res1_ (P : Program) (w : World) (m : SM) (o : Oper) : Stp → Result Next ⊕ (TypeId × Value) ⊕ Unit
  | .p _ => .inl ((execOp (rho m) o).run P w)
  | .l _ _ _ => (match o.op with | .load t x => .inr (.inl (t, rho m x)) | _ => .inr (.inr ()))
  | .no => .inr (.inr ())
def exp1 (w : World) : Stp → Result Next ⊕ (TypeId × Value) ⊕ Unit
  | .p v => .inl (.ok (.value v) w)
  | .l t ptr _ => .inr (.inl (t, ptr))
  | .no => .inr (.inr ())
def resS (P : Program) (w : World) : SM → List Oper → List Stp → List (Result Next ⊕ (TypeId × Value) ⊕ Unit)
  | m, o :: l, s :: st => res1_ P w m o s :: resS P w (upd1 m o s) l st
  | _, _, _ => []
def expS (w : World) : List Stp → List (Result Next ⊕ (TypeId × Value) ⊕ Unit) := List.map (exp1 w)
def loads (P : Program) (w : World) : List Stp → Prop
  | [] => True
  | .l t ptr v :: st => (Instr.loadAt t ptr).run P w = .ok v w ∧ loads P w st
  | _ :: st => loads P w st
theorem rho_agrees {m : SM} {ρ : Operand → Value} (h : Agrees m ρ) : ∀ (l : List Operand), allKnown m l = true → ∀ x ∈ l, ρ x = rho m x
  | [], _, x, hx => by cases hx
  | y :: l, hk, x, hx => by
    simp only [allKnown, Bool.and_eq_true] at hk
    rcases List.mem_cons.1 hx with rfl | hx
    · obtain ⟨v, hv⟩ := Option.isSome_iff_exists.1 hk.1
      rw [h _ _ hv]; simp [rho, hv]
    · exact rho_agrees h l hk.2 x hx
section
variable {P : Program} {n : FrC} {m : SM} {w : World} {L : List Oper} {K : SM → World → Prop} {S : ST} {o : Oper}
theorem exec_rho {ρ : Operand → Value} (h : Agrees m ρ) (hk : allKnown m o.op.operands.toList = true) (hs : notSelect o.op = true) : execOp ρ o = execOp (rho m) o :=
  execOp_congr o (fun cs b e => by rw [e] at hs; cases hs) fun x hx => rho_agrees h _ hk x (Array.mem_toList_iff.2 hx)
theorem gv_none {a : Act} (ha : Slots n.k a m) {j : Nat} {vs : Array Value} (h : gv L m j = some (.tuple vs)) : yielded L.toArray a.tmps j = none := by
  unfold gv at h
  unfold yielded
  rw [show (L.toArray)[j]? = L[j]? from by simp]
  cases hj : L[j]? with
  | none => simp
  | some o =>
    simp only [hj] at h
    cases hd : o.dst with
    | none => simp [hd] at h
    | some d =>
      simp only [hd] at h
      simp [hd, ha.get d _ h]
theorem wanted_none {a : Act} (ha : Slots n.k a m) {dst : Option Nat} {op : Op} {ty : TypeId} {pos : String} {af : Array Edge} {j : Nat} {b' : Bool} {vs : Array Value} (hg : gv L m j = some (.tuple vs)) :
    Region.wanted ⟨dst, op, ty, pos, af, some (j, b')⟩ (yielded L.toArray a.tmps) = false := by simp [Region.wanted, gv_none ha hg]
theorem RS_nou {k : Sc} {i j : Nat} {dst : Option Nat} {op : Op} {ty : TypeId} {pos : String} {af : Array Edge} {b' : Bool} {vs : Array Value} (hi : L[i]? = some ⟨dst, op, ty, pos, af, some (j, b')⟩) (hd : ∀ d, dst = some d → Nat.blt d n.k = true) (hg : gv L m j = some (.tuple vs))
    (hS : S.s w) (h : RS P n L K S k (after_ m dst none) w) : RS P n L K S (.cons 2 i k) m w := fun a ha =>
  wpS_e hi fun Kk hK => by
    rw [if_neg (by rw [wanted_none ha hg]; simp)]
    exact ⟨fun _ _ => trivial, hK.out _ _ hS fun _ => h _ (ha.after_ hd none)⟩
theorem guard_wanted {a : Act} (ha : Slots n.k a m) {b : Bool} (h : guardIs L m o b = true) : Region.wanted o (yielded L.toArray a.tmps) = b := by
  unfold guardIs at h
  unfold Region.wanted
  cases hg : o.guard with
  | none => simp [hg] at h; simp [h]
  | some jg =>
    obtain ⟨j, g⟩ := jg
    simp only [hg] at h
    cases hv : gv L m j with
    | none => simp [hv] at h
    | some v =>
      cases v <;> simp only [hv, Bool.false_eq_true] at h
      · rename_i b'
        simp only [gv_yielded ha hv]
        cases b <;> cases b' <;> cases g <;> simp_all
      · simp only [gv_none ha hv]
        cases b <;> simp_all
theorem step1 {a : Act} (ha : Slots n.k a m) {s : Stp} (hb : bchk1 n.k L m o s = true) (hr : res1_ P w m o s = exp1 w s) (hl : loads P w [s]) :
    (Region.wanted o (yielded L.toArray a.tmps) = true ∧ (execOp a.eval o).run P w = .ok (.value s.val) w) ∨ (Region.wanted o (yielded L.toArray a.tmps) = false ∧ s.val = undef) := by
  cases s with
  | p v =>
    simp only [bchk1, Bool.and_eq_true] at hb
    simp only [res1_, exp1, Sum.inl.injEq] at hr
    exact .inl ⟨guard_wanted ha hb.1.1, by rw [exec_rho ha.agrees hb.1.2 hb.2]; exact hr⟩
  | l t ptr v =>
    simp only [bchk1, Bool.and_eq_true] at hb
    obtain ⟨⟨h1, h2⟩, h3⟩ := hb
    obtain ⟨dst, op, type, pos, after, guard⟩ := o
    cases op <;> simp only [isLoad, Bool.false_eq_true] at h3
    rename_i t' x
    simp only [res1_, exp1, Sum.inr.injEq, Sum.inl.injEq, Prod.mk.injEq] at hr
    refine .inl ⟨guard_wanted ha h1, ?_⟩
    rw [exec_rho ha.agrees h2 rfl]
    obtain ⟨rfl, hp⟩ := hr
    simp only [execOp, hp]
    have := hl.1
    simp [this, Stp.val]
  | no =>
    exact .inr ⟨guard_wanted ha hb, rfl⟩
theorem noDefer1 {a : Act} (ha : Slots n.k a m) {s : Stp} (hb : bchk1 n.k L m o s = true) (hw : Region.wanted o (yielded L.toArray a.tmps) = true) : isDefer o.op = false := by
  cases s with
  | p v =>
    simp only [bchk1, Bool.and_eq_true] at hb
    have h := hb.2
    cases ho : o.op <;> first | rfl | (rw [ho] at h; cases h)
  | l t ptr v =>
    simp only [bchk1, Bool.and_eq_true] at hb
    have h := hb.2
    cases ho : o.op <;> first | rfl | (rw [ho] at h; cases h)
  | no => rw [guard_wanted ha hb] at hw; cases hw
theorem loads_cons {s : Stp} {st : List Stp} (h : loads P w (s :: st)) : loads P w [s] ∧ loads P w st := by
  cases s <;> simp_all [loads]
theorem dst_put {a : Act} (ha : Slots n.k a m) {s : Stp} (hd : dstOk n.k o = true) : Slots n.k (a.put o.dst s.val) (upd1 m o s) := by
  unfold dstOk at hd
  unfold upd1
  cases h : o.dst with
  | none => simp [h] at hd
  | some d => simp only [h] at hd; exact ha.put hd _
theorem RP_seg0 : ∀ (seg l : List Oper) (st : List Stp) (m : SM), bchk n.k L m seg st = true → resS P w m seg st = expS w st → loads P w st → RP P n L K l (updS m seg st) w → RP P n L K (seg ++ l) m w
  | [], l, [], m, _, _, _, h => h
  | [], l, _ :: _, m, hb, _, _, _ => by simp [bchk] at hb
  | o :: seg, l, [], m, hb, _, _, _ => by simp [bchk] at hb
  | o :: seg, l, s :: st, m, hb, hr, hl, h => fun a ha => by
    simp only [bchk, Bool.and_eq_true] at hb
    simp only [resS, expS, List.map_cons, List.cons.injEq] at hr
    obtain ⟨hl1, hl2⟩ := loads_cons hl
    have ih := RP_seg0 seg l st (upd1 m o s) hb.2 hr.2 hl2 h _ (dst_put ha hb.1.2)
    show wpListIn (fen n.ro) 0 P L.toArray (regQ n.k K) (o :: (seg ++ l)) a w
    unfold wpListIn
    rcases step1 ha hb.1.1 hr.1 hl1 with ⟨hw, hx⟩ | ⟨hw, hu⟩
    · rw [if_pos hw]
      refine opIn (noDefer1 ha hb.1.1 hw) ?_
      unfold Oper.wp
      rw [hx]
      exact ih
    · rw [if_neg (by simp [hw])]
      rw [← hu]; exact ⟨fun _ _ => trivial, ih⟩
theorem RP_seg (k : Nat) (st : List Stp) (keys : List Nat) {l : List Oper} {m' : SM} (h1 : bchk n.k L m (l.take k) st = true) (h2 : ∀ w, resS P w m (l.take k) st = expS w st)
    (h3 : pick (updS m (l.take k) st) keys = some m') (hl : loads P w st) (h : RP P n L K (l.drop k) m' w) : RP P n L K l m w := by
  have := RP_seg0 (K := K) (l.take k) (l.drop k) st m h1 (h2 w) hl fun a ha => h a (ha.pick h3)
  rwa [List.take_append_drop] at this
def opsAt (L : List Oper) : List (Nat × Nat) → Option (List Oper)
  | [] => some []
  | (_, i) :: l => match L[i]?, opsAt L l with
    | some o, some r => some (o :: r)
    | _, _ => none
def kindsAre (c : Nat) : List (Nat × Nat) → Bool
  | [] => true
  | (k, _) :: l => Nat.beq k c && kindsAre c l
def Sc.take : Nat → Sc → List (Nat × Nat)
  | k + 1, .cons c i l => (c, i) :: Sc.take k l
  | _, _ => []
def Sc.drop : Nat → Sc → Sc
  | k + 1, .cons _ _ l => Sc.drop k l
  | _, l => l
def Sc.app : List (Nat × Nat) → Sc → Sc
  | [], l => l
  | (c, i) :: s, l => .cons c i (Sc.app s l)
theorem Sc.take_drop : ∀ (k : Nat) (l : Sc), Sc.app (l.take k) (l.drop k) = l
  | 0, .nil => rfl
  | 0, .cons _ _ _ => rfl
  | 0, .fork _ _ => rfl
  | k + 1, .nil => rfl
  | k + 1, .cons c i l => by simp only [Sc.take, Sc.drop, Sc.app, Sc.take_drop k l]
  | k + 1, .fork _ _ => rfl
theorem some_getD {α : Type} {o : Option (List α)} (h : o.isSome = true) : o = some (o.getD []) := by cases o with | none => cases h | some x => rfl
theorem RS_seg0 : ∀ (sk : List (Nat × Nat)) (k : Sc) (seg : List Oper) (st : List Stp) (m : SM), kindsAre 1 sk = true → opsAt L sk = some seg → S.s w → bchk n.k L m seg st = true → (∀ w, resS P w m seg st = expS w st) → (∀ w, S.s w → loads P w st) →
    RS P n L K S k (updS m seg st) w → RS P n L K S (Sc.app sk k) m w
  | [], k, seg, st, m, _, ho, _, hb, _, _, h => by
    simp only [opsAt, Option.some.injEq] at ho; subst ho
    cases st with
    | nil => exact h
    | cons s st => simp [bchk] at hb
  | (c, i) :: sk, k, seg, st, m, hk, ho, hS, hb, hr, hl, h => fun a ha => by
    simp only [opsAt] at ho
    split at ho <;> simp only [Option.some.injEq, reduceCtorEq] at ho
    rename_i o r hi hr'
    subst ho
    cases st with
    | nil => simp [bchk] at hb
    | cons s st =>
      simp only [kindsAre, Bool.and_eq_true] at hk
      obtain rfl : c = 1 := Nat.eq_of_beq_eq_true hk.1
      simp only [bchk, Bool.and_eq_true] at hb
      have hr1 : ∀ w, res1_ P w m o s = exp1 w s := fun w => by have := hr w; simp only [resS, expS, List.map_cons, List.cons.injEq] at this; exact this.1
      have hr2 : ∀ w, resS P w (upd1 m o s) r st = expS w st := fun w => by have := hr w; simp only [resS, expS, List.map_cons, List.cons.injEq] at this; exact this.2
      have ih := RS_seg0 sk k r st (upd1 m o s) hk.2 hr' hS hb.2 hr2 (fun w hw => (loads_cons (hl w hw)).2) h _ (dst_put ha hb.1.2)
      show wpS P L.toArray (regQ n.k K) S (.cons 1 i (Sc.app sk k)) a w
      rcases Bool.eq_false_or_eq_true (Region.wanted o (yielded L.toArray a.tmps)) with hw | hw
      · refine wpS_q (v := s.val) hi hw hS (fun w' hw' => ?_) ih
        rcases step1 (w := w') ha hb.1.1 (hr1 w') (loads_cons (hl w' hw')).1 with ⟨_, hx⟩ | ⟨hf, _⟩
        · exact hx
        · rw [hw] at hf; cases hf
      · rcases step1 (w := w) ha hb.1.1 (hr1 w) (loads_cons (hl w hS)).1 with ⟨hf, _⟩ | ⟨_, hu⟩
        · rw [hw] at hf; cases hf
        · rw [hu] at ih; exact wpS_no1 hi hw hS ih
theorem RS_seg (k : Nat) (st : List Stp) (keys : List Nat) {q : Sc} {m' : SM} (hk : kindsAre 1 (q.take k) = true) (ho : (opsAt L (q.take k)).isSome = true) (hS : S.s w) (h1 : bchk n.k L m ((opsAt L (q.take k)).getD []) st = true) (h2 : ∀ w, resS P w m ((opsAt L (q.take k)).getD []) st = expS w st)
    (h3 : pick (updS m ((opsAt L (q.take k)).getD []) st) keys = some m') (hl : ∀ w, S.s w → loads P w st) (h : RS P n L K S (q.drop k) m' w) : RS P n L K S q m w := by
  have := RS_seg0 (K := K) (q.take k) (q.drop k) ((opsAt L (q.take k)).getD []) st m hk (some_getD ho) hS h1 h2 hl fun a ha => h a (ha.pick h3)
  rwa [Sc.take_drop] at this
theorem RS_seg40 : ∀ (sk : List (Nat × Nat)) (k : Sc) (seg : List Oper) (st : List Stp) (m : SM), kindsAre 4 sk = true → opsAt L sk = some seg → (S.s w ∧ S.t w) → bchk n.k L m seg st = true → (∀ w, resS P w m seg st = expS w st) → (∀ w, (S.s w ∧ S.t w) → loads P w st) →
    RS P n L K S k (updS m seg st) w → RS P n L K S (Sc.app sk k) m w
  | [], k, seg, st, m, _, ho, _, hb, _, _, h => by
    simp only [opsAt, Option.some.injEq] at ho; subst ho
    cases st with
    | nil => exact h
    | cons s st => simp [bchk] at hb
  | (c, i) :: sk, k, seg, st, m, hk, ho, hS, hb, hr, hl, h => fun a ha => by
    simp only [opsAt] at ho
    split at ho <;> simp only [Option.some.injEq, reduceCtorEq] at ho
    rename_i o r hi hr'
    subst ho
    cases st with
    | nil => simp [bchk] at hb
    | cons s st =>
      simp only [kindsAre, Bool.and_eq_true] at hk
      obtain rfl : c = 4 := Nat.eq_of_beq_eq_true hk.1
      simp only [bchk, Bool.and_eq_true] at hb
      have hr1 : ∀ w, res1_ P w m o s = exp1 w s := fun w => by have := hr w; simp only [resS, expS, List.map_cons, List.cons.injEq] at this; exact this.1
      have hr2 : ∀ w, resS P w (upd1 m o s) r st = expS w st := fun w => by have := hr w; simp only [resS, expS, List.map_cons, List.cons.injEq] at this; exact this.2
      have ih := RS_seg40 sk k r st (upd1 m o s) hk.2 hr' hS hb.2 hr2 (fun w hw => (loads_cons (hl w hw)).2) h _ (dst_put ha hb.1.2)
      show wpS P L.toArray (regQ n.k K) S (.cons 4 i (Sc.app sk k)) a w
      rcases Bool.eq_false_or_eq_true (Region.wanted o (yielded L.toArray a.tmps)) with hw | hw
      · refine wpS_t (v := s.val) hi hw hS (fun w' hw' => ?_) ih
        rcases step1 (w := w') ha hb.1.1 (hr1 w') (loads_cons (hl w' hw')).1 with ⟨_, hx⟩ | ⟨hf, _⟩
        · exact hx
        · rw [hw] at hf; cases hf
      · rcases step1 (w := w) ha hb.1.1 (hr1 w) (loads_cons (hl w hS)).1 with ⟨hf, _⟩ | ⟨_, hu⟩
        · rw [hw] at hf; cases hf
        · rw [hu] at ih; exact wpS_no4 hi hw hS ih
theorem RS_seg4 (k : Nat) (st : List Stp) (keys : List Nat) {q : Sc} {m' : SM} (hk : kindsAre 4 (q.take k) = true) (ho : (opsAt L (q.take k)).isSome = true) (hS : S.s w ∧ S.t w) (h1 : bchk n.k L m ((opsAt L (q.take k)).getD []) st = true) (h2 : ∀ w, resS P w m ((opsAt L (q.take k)).getD []) st = expS w st)
    (h3 : pick (updS m ((opsAt L (q.take k)).getD []) st) keys = some m') (hl : ∀ w, (S.s w ∧ S.t w) → loads P w st) (h : RS P n L K S (q.drop k) m' w) : RS P n L K S q m w := by
  have := RS_seg40 (K := K) (q.take k) (q.drop k) ((opsAt L (q.take k)).getD []) st m hk (some_getD ho) hS h1 h2 hl fun a ha => h a (ha.pick h3)
  rwa [Sc.take_drop] at this
theorem RS_segP0 : ∀ (sk : List (Nat × Nat)) (k : Sc) (seg : List Oper) (st : List Stp) (m : SM), kindsAre 0 sk = true → opsAt L sk = some seg → bchk n.k L m seg st = true → (∀ w, resS P w m seg st = expS w st) → (∀ w, loads P w st) →
    RS P n L K S k (updS m seg st) w → RS P n L K S (Sc.app sk k) m w
  | [], k, seg, st, m, _, ho, hb, _, _, h => by
    simp only [opsAt, Option.some.injEq] at ho; subst ho
    cases st with
    | nil => exact h
    | cons s st => simp [bchk] at hb
  | (c, i) :: sk, k, seg, st, m, hk, ho, hb, hr, hl, h => fun a ha => by
    simp only [opsAt] at ho
    split at ho <;> simp only [Option.some.injEq, reduceCtorEq] at ho
    rename_i o r hi hr'
    subst ho
    cases st with
    | nil => simp [bchk] at hb
    | cons s st =>
      simp only [kindsAre, Bool.and_eq_true] at hk
      obtain rfl : c = 0 := Nat.eq_of_beq_eq_true hk.1
      simp only [bchk, Bool.and_eq_true] at hb
      have hr1 : ∀ w, res1_ P w m o s = exp1 w s := fun w => by have := hr w; simp only [resS, expS, List.map_cons, List.cons.injEq] at this; exact this.1
      have hr2 : ∀ w, resS P w (upd1 m o s) r st = expS w st := fun w => by have := hr w; simp only [resS, expS, List.map_cons, List.cons.injEq] at this; exact this.2
      have ih := RS_segP0 sk k r st (upd1 m o s) hk.2 hr' hb.2 hr2 (fun w => (loads_cons (hl w)).2) h _ (dst_put ha hb.1.2)
      show wpS P L.toArray (regQ n.k K) S (.cons 0 i (Sc.app sk k)) a w
      rcases Bool.eq_false_or_eq_true (Region.wanted o (yielded L.toArray a.tmps)) with hw | hw
      · refine wpS_p (v := s.val) hi hw (fun w' _ => ?_) ih
        rcases step1 (w := w') ha hb.1.1 (hr1 w') (loads_cons (hl w')).1 with ⟨_, hx⟩ | ⟨hf, _⟩
        · exact hx
        · rw [hw] at hf; cases hf
      · rcases step1 (w := w) ha hb.1.1 (hr1 w) (loads_cons (hl w)).1 with ⟨hf, _⟩ | ⟨_, hu⟩
        · rw [hw] at hf; cases hf
        · rw [hu] at ih; exact wpS_no hi hw ih
theorem RS_segP (k : Nat) (st : List Stp) (keys : List Nat) {q : Sc} {m' : SM} (hk : kindsAre 0 (q.take k) = true) (ho : (opsAt L (q.take k)).isSome = true) (h1 : bchk n.k L m ((opsAt L (q.take k)).getD []) st = true) (h2 : ∀ w, resS P w m ((opsAt L (q.take k)).getD []) st = expS w st)
    (h3 : pick (updS m ((opsAt L (q.take k)).getD []) st) keys = some m') (hl : ∀ w, loads P w st) (h : RS P n L K S (q.drop k) m' w) : RS P n L K S q m w := by
  have := RS_segP0 (K := K) (q.take k) (q.drop k) ((opsAt L (q.take k)).getD []) st m hk (some_getD ho) h1 h2 hl fun a ha => h a (ha.pick h3)
  rwa [Sc.take_drop] at this
def keysOf : SM → List Nat
  | [] => []
  | (k, _) :: m => cond (Nat.beq k mkK) (keysOf m) (k :: keysOf m)
theorem RP_sg (k : Nat) (st : List Stp) (m' : SM) (hl : loads P w st) {l : List Oper} (h : RP P n L K (l.drop k) m' w) (h1 : bchk n.k L m (l.take k) st = true := by kernel_rfl) (h2 : ∀ w, resS P w m (l.take k) st = expS w st := by intro _; kernel_rfl)
    (h3 : pick (updS m (l.take k) st) (keysOf m') = some m' := by kernel_rfl) : RP P n L K l m w := RP_seg k st (keysOf m') h1 h2 h3 hl h
theorem RS_sg (k : Nat) (st : List Stp) (m' : SM) {q : Sc} (hS : S.s w) (hl : ∀ w, S.s w → loads P w st) (h : RS P n L K S (q.drop k) m' w) (hk : kindsAre 1 (q.take k) = true := by kernel_rfl) (ho : (opsAt L (q.take k)).isSome = true := by kernel_rfl)
    (h1 : bchk n.k L m ((opsAt L (q.take k)).getD []) st = true := by kernel_rfl) (h2 : ∀ w, resS P w m ((opsAt L (q.take k)).getD []) st = expS w st := by intro _; kernel_rfl)
    (h3 : pick (updS m ((opsAt L (q.take k)).getD []) st) (keysOf m') = some m' := by kernel_rfl) : RS P n L K S q m w := RS_seg k st (keysOf m') hk ho hS h1 h2 h3 hl h
theorem RS_sg4 (k : Nat) (st : List Stp) (m' : SM) {q : Sc} (hS : S.s w ∧ S.t w) (hl : ∀ w, (S.s w ∧ S.t w) → loads P w st) (h : RS P n L K S (q.drop k) m' w) (hk : kindsAre 4 (q.take k) = true := by kernel_rfl) (ho : (opsAt L (q.take k)).isSome = true := by kernel_rfl)
    (h1 : bchk n.k L m ((opsAt L (q.take k)).getD []) st = true := by kernel_rfl) (h2 : ∀ w, resS P w m ((opsAt L (q.take k)).getD []) st = expS w st := by intro _; kernel_rfl)
    (h3 : pick (updS m ((opsAt L (q.take k)).getD []) st) (keysOf m') = some m' := by kernel_rfl) : RS P n L K S q m w := RS_seg4 k st (keysOf m') hk ho hS h1 h2 h3 hl h
theorem RS_sgP (k : Nat) (st : List Stp) (m' : SM) {q : Sc} (hl : ∀ w, loads P w st) (h : RS P n L K S (q.drop k) m' w) (hk : kindsAre 0 (q.take k) = true := by kernel_rfl) (ho : (opsAt L (q.take k)).isSome = true := by kernel_rfl)
    (h1 : bchk n.k L m ((opsAt L (q.take k)).getD []) st = true := by kernel_rfl) (h2 : ∀ w, resS P w m ((opsAt L (q.take k)).getD []) st = expS w st := by intro _; kernel_rfl)
    (h3 : pick (updS m ((opsAt L (q.take k)).getD []) st) (keysOf m') = some m' := by kernel_rfl) : RS P n L K S q m w := RS_segP k st (keysOf m') hk ho h1 h2 h3 hl h
theorem RP_pk (m' : SM) {l : List Oper} (h : RP P n L K l m' w) (hr : pick m (keysOf m') = some m' := by kernel_rfl) : RP P n L K l m w := RP_pick (keysOf m') hr h
theorem RS_pk (m' : SM) {l : Sc} (h : RS P n L K S l m' w) (hr : pick m (keysOf m') = some m' := by kernel_rfl) : RS P n L K S l m w := fun a ha => h a (ha.pick hr)
end
end Go.Proofs.YtcopemgkjbaaeaaDoor
namespace Go.Proofs.YtcopemgkjbaaeaaDoor
set_option linter.all false
open Go.RowKit
structure St (X : List Nat) (w0 w : World) (M : List (Nat × TypeId × List Value)) : Prop where
  ext : Ext X w0 w
  nodup : (M.map (·.1)).Nodup
  blk : ∀ b ∈ M, Blk w b.1 b.2.1 b.2.2.toArray
section
variable {P : Program} {n : FrC} {m : SM} {w w0 w' : World} {X : List Nat} {M : List (Nat × TypeId × List Value)}
theorem St.init (w : World) (X : List Nat) : St X w w [] := ⟨Ext.refl X w, by simp, fun _ h => by cases h⟩
theorem St.get (h : St X w0 w M) (k : Nat) {g : Nat} {t : TypeId} {cs : List Value} (hk : M[k]? = some (g, t, cs)) : Blk w g t cs.toArray := h.blk _ (List.mem_of_getElem? hk)
theorem St.cell (h : St X w0 w M) (k i : Nat) {g : Nat} {t : TypeId} {cs : List Value} {v : Value} (hk : M[k]? = some (g, t, cs)) (hi : cs[i]? = some v) : w.cell? ⟨g, i, none⟩ = some v := by
  rw [(h.get k hk).cell i]; simpa using hi
theorem St.drew (h : St X w0 w M) : St X w0 w.drew M := ⟨h.ext.drew, h.nodup, h.blk⟩
theorem St.add (h : St X w0 w M) {g : Nat} {t : TypeId} {cs : List Value} (hb : Blk w g t cs.toArray) (hn : g ∉ M.map (·.1)) : St X w0 w ((g, t, cs) :: M) :=
  ⟨h.ext, by simpa using ⟨by simpa using hn, h.nodup⟩, fun b hm => by
    rcases List.mem_cons.1 hm with rfl | hm
    · exact hb
    · exact h.blk b hm⟩
theorem St.sub (h : St X w0 w M) (l : List Nat) {M' : List (Nat × TypeId × List Value)} (hl : M'.Sublist M) : St X w0 w M' :=
  ⟨h.ext, (hl.map (·.1)).nodup h.nodup, fun b hm => h.blk b (hl.subset hm)⟩
theorem St.call {Y : List Nat} (h : St X w0 w M) (hx : Ext Y w w') (hd : ∀ g ∈ M.map (·.1), g ∉ Y) (hY : ∀ k ∈ Y, k ∈ X ∨ w0.heap.size ≤ k) : St X w0 w' M :=
  ⟨⟨hx.os.trans h.ext.os, hx.tape.trans h.ext.tape, hx.output.trans h.ext.output, Nat.le_trans h.ext.size hx.size, fun k hk hxx =>
      (hx.block k (Nat.lt_of_lt_of_le hk h.ext.size) (fun hy => by
        rcases hY k hy with h1 | h1
        · exact hxx h1
        · omega)).trans (h.ext.block k hk hxx)⟩,
    h.nodup, fun b hb => (h.blk b hb).ext hx (hd _ (List.mem_map_of_mem hb))⟩
theorem St.call0 (h : St X w0 w M) (hx : Ext [] w w') : St X w0 w' M := h.call hx (by simp) (by simp)
theorem St.lt (h : St X w0 w M) (k : Nat) {g : Nat} {t : TypeId} {cs : List Value} (hk : M[k]? = some (g, t, cs)) : g < w.heap.size := (h.get k hk).lt
def NAgg (P : Program) (t : TypeId) : Prop := ∀ w, (isAgg t).run P w = .ok false w
def Agg (P : Program) (t : TypeId) (k : Nat) : Prop := (∀ w, (isAgg t).run P w = .ok true w) ∧ ∀ w, (sizeOf t).run P w = .ok k w
theorem ld1 (h : St X w0 w M) {t : TypeId} (ht : NAgg P t) (k : Nat) {g i : Nat} {t' : TypeId} {cs : List Value} {v : Value} (hk : M[k]? = some (g, t', cs)) (hi : cs[i]? = some v) :
    (Instr.loadAt t (.pointer (some ⟨g, i, none⟩))).run P w = .ok v w := by
  have hc := h.cell k i hk hi
  simp [Instr.loadAt, Instr.sureAddr, loadVar, ht w, load, Sem.run, hc]
theorem run_loadCellsFrom {g : Nat} {t : TypeId} {cs : List Value} (hb : Blk w g t cs.toArray) : ∀ (k i j : Nat) (acc : Array Value), i + j + k ≤ cs.length → (loadCellsFrom ⟨g, i, none⟩ j k acc).run P w = .ok (acc ++ ((cs.drop (i + j)).take k).toArray) w
  | 0, i, j, acc, _ => by simp [loadCellsFrom]
  | k + 1, i, j, acc, hle => by
    have hlt : i + j < cs.length := by omega
    have hc : w.cell? ((⟨g, i, none⟩ : Addr).add j) = some (cs[i + j]) := by
      have e : ((⟨g, i, none⟩ : Addr).add j) = ⟨g, i + j, none⟩ := by unfold Addr.add; split <;> simp_all
      rw [e, hb.cell]; simp [hlt]
    simp only [loadCellsFrom, load]
    simp only [Sem.run_bind, Sem.run, hc, Result.andThen_ok]
    rw [run_loadCellsFrom hb k i (j + 1) _ (by omega)]
    congr 1
    rw [List.drop_eq_getElem_cons hlt, List.take_succ_cons, show i + (j + 1) = i + j + 1 from by omega]
    simp
theorem ldN (h : St X w0 w M) {t : TypeId} {sz : Nat} (ht : Agg P t sz) (k : Nat) {g i : Nat} {t' : TypeId} {cs vs : List Value} (hk : M[k]? = some (g, t', cs)) (hi : (cs.drop i).take sz = vs) (hle : Nat.ble (i + sz) cs.length = true) :
    (Instr.loadAt t (.pointer (some ⟨g, i, none⟩))).run P w = .ok (.agg vs.toArray) w := by
  have hr := run_loadCellsFrom (P := P) (h.get k hk) sz i 0 #[] (by simpa [Nat.ble_eq] using hle)
  simp only [Instr.loadAt, Instr.sureAddr, loadVar, loadCells]
  simp [ht.1 w, ht.2 w, hr, hi]
theorem ld1b {t : TypeId} {g i : Nat} {t' : TypeId} {cs : List Value} {v : Value} (hb : Blk w g t' cs.toArray) (ht : NAgg P t) (hi : cs[i]? = some v) :
    (Instr.loadAt t (.pointer (some ⟨g, i, none⟩))).run P w = .ok v w :=
  ld1 (M := [(g, t', cs)]) ⟨Ext.refl [] w, by simp, fun b h => by simp at h; subst h; exact hb⟩ ht 0 rfl hi
theorem ldNb {t : TypeId} {sz : Nat} {g i : Nat} {t' : TypeId} {cs vs : List Value} (hb : Blk w g t' cs.toArray) (ht : Agg P t sz) (hi : (cs.drop i).take sz = vs) (hle : Nat.ble (i + sz) cs.length = true) :
    (Instr.loadAt t (.pointer (some ⟨g, i, none⟩))).run P w = .ok (.agg vs.toArray) w :=
  ldN (M := [(g, t', cs)]) ⟨Ext.refl [] w, by simp, fun b h => by simp at h; subst h; exact hb⟩ ht 0 rfl hi hle
theorem RP_at {l L : List Oper} {K : SM → World → Prop} {m' : SM} (e : m = m') (h : RP P n L K l m' w) : RP P n L K l m w := e ▸ h
theorem RS_at {l : Sc} {L : List Oper} {K : SM → World → Prop} {S : ST} {m' : SM} (e : m = m') (h : RS P n L K S l m' w) : RS P n L K S l m w := e ▸ h
theorem W_true' {c c2 : Code} {Q : SQ} {x : Operand} {b : Bool} (hx : opv m x = some (.bool b)) (hb : b = true) (h : W P n c Q m w) : W P n (.cond x c c2) Q m w := by subst hb; exact W_true hx h
theorem W_false' {c c2 : Code} {Q : SQ} {x : Operand} {b : Bool} (hx : opv m x = some (.bool b)) (hb : b = false) (h : W P n c2 Q m w) : W P n (.cond x c c2) Q m w := by subst hb; exact W_false hx h
theorem stepR_scope {c : Code} {b : Frame} {a : Act} {k : List Item} {cs : List Frame} : step P (lone (b.atR a (.code (.scope c) :: k)) cs w) = .next (lone (b.atR a (.code c :: .inScope c :: k)) cs w) :=
  step_lone_go (by simp [stepG, stepG.exec, Frame.atR])
theorem stepR_inScope {c : Code} {b : Frame} {a : Act} {k : List Item} {cs : List Frame} : step P (lone (b.atR a (.inScope c :: k)) cs w) = .next (lone (b.atR a k) cs w) :=
  step_lone_go (by simp [stepG, stepG.exec, Frame.atR])
theorem wpIn_scope_straight {F : Fence} {n : Nat} {Q : Exit → Act → World → Prop} {a : Act} {c : Code} (h : c.wpIn F n P (Exit.noGoto Q) a w) : (Code.scope c).wpIn F n P Q a w := by
  intro b k cs hro hb hr
  have h0 : (lone (b.atR a (.code (.scope c) :: k)) cs w).fenced P F := fenced_calm hb hr rfl
  obtain ⟨e, a₁, w₁, hq, harr⟩ := h b (.inScope c :: k) cs hro hb hr
  cases e with
  | normal => exact ⟨.normal, a₁, w₁, hq, .head h0 stepR_scope (StepsIn.trans harr (.one (fenced_calm hb hr rfl) stepR_inScope))⟩
  | exit id =>
    have hx : exitTo id (.inScope c :: k) = exitTo id k := by simp [exitTo]
    exact ⟨.exit id, a₁, w₁, hq, fun k' hk => .head h0 stepR_scope (harr.1 k' (by rw [hx]; exact hk)), fun hr' hk => let ⟨k₁, h1, h2⟩ := harr.2 hr' (by rw [hx]; exact hk); ⟨k₁, h1, .head h0 stepR_scope h2⟩⟩
  | goto l => exact hq.elim
  | ret => exact ⟨_, a₁, w₁, hq, .of_steps (.one h0 stepR_scope) harr⟩
  | panic ch => exact ⟨_, a₁, w₁, hq, .of_steps (.one h0 stepR_scope) harr⟩
  | outgrown => exact ⟨_, a₁, w₁, hq, .of_steps (.one h0 stepR_scope) harr⟩
def scopeQ (Q : SQ) : SQ
  | .goto _, _, _ => False
  | e, m, w => Q e m w
theorem W_scope {c : Code} {Q : SQ} (h : W P n c (scopeQ Q) m w) : W P n (.scope c) Q m w := fun a ha => wpIn_scope_straight (wpIn_mono (h a ha) fun e a w q => by
  cases e <;> first
    | exact q
    | exact q.elim
    | (obtain ⟨_, _, hq⟩ := q; exact hq.elim))
theorem W_label {l : Nat} {Q : SQ} (h : Q .normal m w) : W P n (.label l) Q m w := fun _ ha => wpIn_label ⟨m, ha, h⟩
theorem n_scope {Q : SQ} (h : Q .normal m w) : scopeQ Q .normal m w := h
theorem r_scope {Q : SQ} (h : Q .ret m w) : scopeQ Q .ret m w := h
def WR (P : Program) (n : FrC) (c : Code) (Q : SQ) : Nat → SM → World → Prop
  | 0, _, _ => False
  | k + 1, m, w => W P n c (fun e m w => match e with | .normal => WR P n c Q k m w | e => Q e m w) m w
def unQ (P : Program) (n : FrC) (c : Code) (Q : SQ) (k : Nat) : SQ
  | .normal, m, w => WR P n c Q k m w
  | e, m, w => Q e m w
theorem W_mono {c : Code} {Q R : SQ} (h : W P n c Q m w) (hq : ∀ e m w, Q e m w → R e m w) : W P n c R m w := fun a ha => wpIn_mono (h a ha) fun e a w q => by
  cases e <;> first
    | exact q
    | exact q.elim
    | (obtain ⟨m', hs, hq'⟩ := q; exact ⟨m', hs, hq _ _ _ hq'⟩)
theorem W_unroll {c : Code} {Q : SQ} (k : Nat) (h : W P n c (unQ P n c Q k) m w) : W P n (.loop c) Q m w := by
  refine W_loop (WR P n c Q) (k0 := k + 1) (W_mono h fun e m w q => by cases e <;> exact q) fun j m w hj => ?_
  cases j with
  | zero => exact hj.elim
  | succ j =>
      refine W_mono hj fun e m w q => ?_
      cases e <;> first
        | exact q
        | exact ⟨j, Nat.lt_succ_self j, q⟩
theorem n_unr {c : Code} {Q : SQ} {k : Nat} (h : W P n c (unQ P n c Q k) m w) : unQ P n c Q (k + 1) .normal m w := W_mono h fun e m w q => by cases e <;> exact q
theorem r_unr {c : Code} {Q : SQ} {k : Nat} (h : Q .ret m w) : unQ P n c Q k .ret m w := h
theorem e_unr {c : Code} {Q : SQ} {k i : Nat} (h : Q (.exit i) m w) : unQ P n c Q k (.exit i) m w := h
theorem n_then {c : Code} {Q : SQ} (h : W P n c Q m w) : thenQ P n c Q .normal m w := h
theorem n_block {id : Nat} {Q : SQ} (h : Q .normal m w) : blockQ id Q .normal m w := h
theorem r_then {c : Code} {Q : SQ} (h : Q .ret m w) : thenQ P n c Q .ret m w := h
theorem r_block {id : Nat} {Q : SQ} (h : Q .ret m w) : blockQ id Q .ret m w := h
theorem r_loop {I : Nat → SM → World → Prop} {k : Nat} {Q : SQ} (h : Q .ret m w) : loopQ I k Q .ret m w := h
theorem e_then {c : Code} {Q : SQ} {i : Nat} (h : Q (.exit i) m w) : thenQ P n c Q (.exit i) m w := h
theorem e_loop {I : Nat → SM → World → Prop} {k : Nat} {Q : SQ} {i : Nat} (h : Q (.exit i) m w) : loopQ I k Q (.exit i) m w := h
theorem e_here {id : Nat} {Q : SQ} (h : Q .normal m w) : blockQ id Q (.exit id) m w := by simp only [blockQ, Nat.beq_refl, cond_true]; exact h
theorem e_on {id j : Nat} {Q : SQ} (hne : Nat.beq j id = false) (h : Q (.exit j) m w) : blockQ id Q (.exit j) m w := by simp only [blockQ, hne, cond_false]; exact h
def HasBody (P : Program) (k : FuncId) : Prop := ∀ args w, (callFunc k args).run P w = .ok (.enter k args) w
def CR (P : Program) (k : FuncId) (args : List Value) (w : World) (G : Value → World → Prop) : Prop := Calls P k args.toArray w fun e w' => ∃ v, e = .returned v ∧ G v w'
theorem CR.mono {k : FuncId} {args : List Value} {G G' : Value → World → Prop} (h : CR P k args w G) (hg : ∀ v w', G v w' → G' v w') : CR P k args w G' :=
  Calls.mono h fun _ _ ⟨v, e, g⟩ => ⟨v, e, hg _ _ g⟩
theorem CR.of {k : FuncId} {args : List Value} {R : Ending → World → Prop} {G : Value → World → Prop} (h : Calls P k args.toArray w R) (hr : ∀ e w', R e w' → ∃ v, e = .returned v ∧ G v w') : CR P k args w G := Calls.mono h hr
def retG (P : Program) (fn : Func) (G : Value → World → Prop) : SQ := retQ P fn fun e w' => ∃ v, e = .returned v ∧ G v w'
theorem CR_enter {k : Nat} {f : FuncId} {fn : Func} {c : Code} {args : List Value} {G : Value → World → Prop} (hf : P.funcs[f]? = some fn) (hb : fn.body = some c) (hn : fn.ntmps = k) (hle : (Nat.ble args.length k && Nat.ble k mkK) = true)
    (h : W P ⟨k, none⟩ c (retG P fn G) (numb args 0) w) (hm : marksOf (numb args 0) = [] := by rfl) : CR P f args w G := W_enter hf hb hn hle h hm
theorem ret_of {fn : Func} {G : Value → World → Prop} {v : Value} (hr : Res P fn m w v) (hG : G v w) (hm : marksOf m = [] := by rfl) : retG P fn G .ret m w := by
  show ShutAll P _ (marksOf m) w
  rw [hm]; exact ⟨v, hr, v, rfl, hG⟩
theorem end_of {fn : Func} {G : Value → World → Prop} {v : Value} (hr : Res P fn m w v) (hG : G v w) (hm : marksOf m = [] := by rfl) : retG P fn G .normal m w := by
  show ShutAll P _ (marksOf m) w
  rw [hm]; exact ⟨v, hr, v, rfl, hG⟩
variable {dst : Option Nat} {ty : TypeId} {pos : String} {af : Array Edge} {gd : Option (Nat × Bool)}
theorem Agrees.get {ρ : Operand → Value} (h : Agrees m ρ) {x : Operand} {v : Value} (hx : opv m x = some v) : ρ x = v := h x v hx
theorem St.push (h : St X w0 w M) (t : TypeId) (cs : List Value) : St X w0 (w.alloc (.cells cs.toArray t)) ((w.heap.size, t, cs) :: M) := by
  have h1 : St X w0 (w.alloc (.cells cs.toArray t)) M := h.call0 ((Ext.refl [] w).alloc _)
  refine h1.add (Blk.new w t cs.toArray) fun hm => ?_
  obtain ⟨b, hb, e⟩ := List.mem_map.1 hm
  have := (h.blk b hb).lt
  omega
theorem ef_box {t : TypeId} {x : Operand} {v : Value} {cs : List Value} (h : St X w0 w M) (hx : opv m x = some v) (hc : v.cells.toList = cs) :
    Ef P m ⟨dst, .box t x, ty, pos, af, gd⟩ w fun r W => ∃ g, r = some (.pointer (some ⟨g, 0, none⟩)) ∧ w0.heap.size ≤ g ∧ w.heap.size ≤ g ∧ St X w0 W ((g, t, cs) :: M) ∧ Ext [] w W := fun ρ hρ => by
  refine .inl ⟨_, _, ?_, w.heap.size, rfl, h.ext.size, Nat.le_refl _, h.push t cs, (Ext.refl [] w).alloc _⟩
  have e : v.cells = cs.toArray := by rw [← hc]
  simp only [execOp, Instr.box, hρ.get hx, newVar, newRow, newObj, e]
  rfl
theorem ef_alloc {t : TypeId} {z : Value} {cs : List Value} (h : St X w0 w M) (hz : ∀ w, (zeroValue t).run P w = .ok z w) (hc : z.cells.toList = cs) :
    Ef P m ⟨dst, .alloc t, ty, pos, af, gd⟩ w fun r W => ∃ g, r = some (.pointer (some ⟨g, 0, none⟩)) ∧ w0.heap.size ≤ g ∧ w.heap.size ≤ g ∧ St X w0 W ((g, t, cs) :: M) ∧ Ext [] w W := fun ρ hρ => by
  refine .inl ⟨_, _, ?_, w.heap.size, rfl, h.ext.size, Nat.le_refl _, h.push t cs, (Ext.refl [] w).alloc _⟩
  have e : z.cells = cs.toArray := by rw [← hc]
  simp only [execOp, Instr.alloc, newVar, newRow, newObj]
  simp only [Sem.run_bind, hz w, Result.andThen_ok, e]
  rfl
def over_ (cs : List Value) : Nat → List Value → List Value
  | _, [] => cs
  | i, v :: l => over_ (cs.set i v) (i + 1) l
theorem run_storeCells {t : TypeId} : ∀ (vs : List Value) (cs : List Value) (i j : Nat) (w : World) {g : Nat} (_ : Blk w g t cs.toArray) (_ : vs.all (·.oneCell) = true) (_ : i + j + vs.length ≤ cs.length),
    ∃ W, (storeCells ⟨g, i, none⟩ vs j).run P w = .ok () W ∧ Blk W g t (over_ cs (i + j) vs).toArray ∧ Ext [g] w W
  | [], cs, i, j, w, g, hb, _, _ => ⟨w, by simp [storeCells], hb, Ext.refl _ _⟩
  | v :: l, cs, i, j, w, g, hb, ho, hle => by
    have e : ((⟨g, i, none⟩ : Addr).add j) = ⟨g, i + j, none⟩ := by unfold Addr.add; split <;> simp_all
    simp only [List.all_cons, Bool.and_eq_true] at ho
    have hlt : i + j < cs.length := by simp at hle; omega
    have hc : w.cell? ⟨g, i + j, none⟩ = some (cs[i + j]) := by rw [hb.cell]; simp [hlt]
    have hb1 : Blk (w.setCell ⟨g, i + j, none⟩ v) g t (cs.set (i + j) v).toArray := by simpa using hb.set_ (i + j) v
    obtain ⟨W, h1, h2, h3⟩ := run_storeCells l (cs.set (i + j) v) i (j + 1) _ hb1 ho.2 (by simp at hle ⊢; omega)
    refine ⟨W, ?_, h2, ((Ext.refl [g] w).setCell (.inl (by simp)) v).trans h3⟩
    simp only [storeCells, store, e]
    rw [Sem.run_bind]
    have : (Sem.store Mode.plain (⟨g, i + j, none⟩ : Addr) v (Sem.pure ())).run P w = .ok () (w.setCell ⟨g, i + j, none⟩ v) := by
      have hf := hb.frozen (i + j)
      cases v <;> simp_all [Sem.run, Value.oneCell]
    rw [this]
    exact h1
theorem St.turned (h : St X w0 w M) (k : Nat) {g : Nat} {t : TypeId} {cs cs' : List Value} {W : World} (hk : M[k]? = some (g, t, cs)) (hX : g ∈ X ∨ w0.heap.size ≤ g) (hb : Blk W g t cs'.toArray) (hx : Ext [g] w W) :
    St X w0 W (M.set k (g, t, cs')) := by
  have hlt : k < M.length := (List.getElem?_eq_some_iff.1 hk).1
  have hk' : M[k] = (g, t, cs) := (List.getElem?_eq_some_iff.1 hk).2
  refine ⟨?_, ?_, fun b hb' => ?_⟩
  · exact ⟨hx.os.trans h.ext.os, hx.tape.trans h.ext.tape, hx.output.trans h.ext.output, Nat.le_trans h.ext.size hx.size, fun j hj hjx =>
      (hx.block j (Nat.lt_of_lt_of_le hj h.ext.size) (fun hy => by
        have : j = g := by simpa using hy
        subst this
        rcases hX with h1 | h1
        · exact hjx h1
        · omega)).trans (h.ext.block j hj hjx)⟩
  · have : (M.set k (g, t, cs')).map (·.1) = M.map (·.1) := by
      rw [List.map_set]
      apply List.ext_getElem? 
      intro i
      by_cases e : k = i
      · subst e; simp [hlt, hk']
      · simp [List.getElem?_set, e]
    rw [this]; exact h.nodup
  · rcases List.mem_iff_getElem?.1 hb' with ⟨i, hi⟩
    by_cases hne : k = i
    · subst hne
      rw [List.getElem?_set_self hlt] at hi
      injection hi with hi; subst hi; exact hb
    · rw [List.getElem?_set_ne hne] at hi
      have hm : b ∈ M := List.mem_of_getElem? hi
      refine (h.blk b hm).ext hx ?_
      simp only [List.mem_singleton]
      intro e
      have h1 : (M.map (·.1))[i]? = some g := by rw [List.getElem?_map, hi]; simp [e]
      have h2 : (M.map (·.1))[k]? = some g := by rw [List.getElem?_map, hk]; rfl
      exact hne ((List.getElem?_inj (by simpa using hlt) h.nodup).1 (h2.trans h1.symm))
theorem ef_store {t t' : TypeId} {x y : Operand} {g i sz : Nat} {cs vs : List Value} {v : Value} (h : St X w0 w M) (hx : opv m x = some (.pointer (some ⟨g, i, none⟩))) (hy : opv m y = some v) (hvs : v.cells.toList = vs)
    (hsz : ∀ w, (sizeOf t).run P w = .ok sz w) (k : Nat) (hk : M[k]? = some (g, t', cs)) (hlen : Nat.beq vs.length sz = true) (hone : vs.all (·.oneCell) = true) (hle : Nat.ble (i + vs.length) cs.length = true) (hX : g ∈ X ∨ w0.heap.size ≤ g) :
    Ef P m ⟨dst, .store t x y, ty, pos, af, gd⟩ w fun r W => r = none ∧ St X w0 W (M.set k (g, t', over_ cs i vs)) ∧ Ext [g] w W := fun ρ hρ => by
  obtain ⟨W, h1, h2, h3⟩ := run_storeCells (P := P) vs cs i 0 w (h.get k hk) hone (by simpa [Nat.ble_eq] using hle)
  refine .inr (.inl ⟨W, ?_, rfl, h.turned k hk hX h2 h3, h3⟩)
  have e : v.cells = vs.toArray := by rw [← hvs]
  have hl : vs.length = sz := by simpa using hlen
  simp only [execOp, Instr.storeAt, Instr.sureAddr, storeVar, hρ.get hx, hρ.get hy, e]
  simp [hsz w, hl, h1]
def args_ (m : SM) : List Operand → Option (List Value)
  | [] => some []
  | x :: l => match opv m x, args_ m l with
    | some v, some r => some (v :: r)
    | _, _ => none
def callee (m : SM) : Op → Option (FuncId × List Value)
  | .call ⟨.value f, xs, _⟩ => match opv m f, args_ m xs.toList with
    | some (.func (.func k) first cap), some vs => some (k, first.toList ++ vs ++ cap.toList)
    | _, _ => none
  | _ => none
theorem args_agrees {ρ : Operand → Value} (h : Agrees m ρ) : ∀ {l : List Operand} {vs : List Value}, args_ m l = some vs → l.map ρ = vs
  | [], vs, hv => by simp [args_] at hv; simp [hv]
  | x :: l, vs, hv => by
    simp only [args_] at hv
    split at hv
    · rename_i v r h1 h2
      injection hv with hv; subst hv
      simp [h _ _ h1, args_agrees h h2]
    · cases hv
theorem ef_call {op : Op} {k : FuncId} {args : List Value} {G : Value → World → Prop} (h : CR P k args w G) (hb : HasBody P k) (hc : callee m op = some (k, args)) :
    Ef P m ⟨dst, op, ty, pos, af, gd⟩ w fun r W => ∃ v, r = some v ∧ G v W := fun ρ hρ => by
  refine .inr (.inr ⟨k, args.toArray, ?_, h.mono fun v w' g => ?_⟩)
  · cases op <;> simp only [callee, reduceCtorEq] at hc
    rename_i cl
    obtain ⟨cal, xs, ats⟩ := cl
    cases cal <;> simp only [reduceCtorEq] at hc
    rename_i f
    split at hc
    · rename_i k' first cap vs hf ha
      injection hc with hc
      injection hc with h1 h2
      subst h1; subst h2
      have hm : xs.map ρ = vs.toArray := by
        have := args_agrees hρ ha
        rw [← this, ← List.map_toArray, Array.toArray_toList]
      simp only [execOp, resolve, Deferred.ofValue, hρ.get hf, hm]
      simp [invoke, hb _ w]
    · cases hc
  · exact ⟨v, rfl, g⟩
end
end Go.Proofs.YtcopemgkjbaaeaaDoor
namespace Go.Proofs.YtcopemgkjbaaeaaDoor
open Go.RowKit
theorem nagg_3 : NAgg Tryd.prog 3 := fun _ => by kernel_rfl
theorem size_3 (w : World) : (sizeOf 3).run Tryd.prog w = .ok 1 w := by kernel_rfl
theorem nagg_4 : NAgg Tryd.prog 4 := fun _ => by kernel_rfl
theorem nagg_9 : NAgg Tryd.prog 9 := fun _ => by kernel_rfl
theorem nagg_22 : NAgg Tryd.prog 22 := fun _ => by kernel_rfl
theorem size_22 (w : World) : (sizeOf 22).run Tryd.prog w = .ok 1 w := by kernel_rfl
theorem zero_22 (w : World) : (zeroValue 22).run Tryd.prog w = .ok (.slice none 0 0) w := by kernel_rfl
theorem agg_24 : Agg Tryd.prog 24 3 := ⟨fun _ => by kernel_rfl, fun _ => by kernel_rfl⟩
theorem nagg_28 : NAgg Tryd.prog 28 := fun _ => by kernel_rfl
theorem size_28 (w : World) : (sizeOf 28).run Tryd.prog w = .ok 1 w := by kernel_rfl
theorem agg_30 : Agg Tryd.prog 30 2 := ⟨fun _ => by kernel_rfl, fun _ => by kernel_rfl⟩
theorem size_30 (w : World) : (sizeOf 30).run Tryd.prog w = .ok 2 w := by kernel_rfl
theorem zero_30 (w : World) : (zeroValue 30).run Tryd.prog w = .ok (.agg #[.int .u64 0, .int .u64 0]) w := by kernel_rfl
theorem agg_32 : Agg Tryd.prog 32 3 := ⟨fun _ => by kernel_rfl, fun _ => by kernel_rfl⟩
theorem size_32 (w : World) : (sizeOf 32).run Tryd.prog w = .ok 3 w := by kernel_rfl
theorem zero_32 (w : World) : (zeroValue 32).run Tryd.prog w = .ok (.agg #[.int .i64 0, .int .u64 0, .int .u64 0]) w := by kernel_rfl
theorem agg_34 : Agg Tryd.prog 34 8 := ⟨fun _ => by kernel_rfl, fun _ => by kernel_rfl⟩
theorem size_34 (w : World) : (sizeOf 34).run Tryd.prog w = .ok 8 w := by kernel_rfl
theorem zero_34 (w : World) : (zeroValue 34).run Tryd.prog w = .ok (.agg #[.int .i64 0, .string (⟨#[]⟩ : ByteArray), .string (⟨#[]⟩ : ByteArray), .bool false, .int .i64 0, .int .u64 0, .int .u64 0, .slice none 0 0]) w := by kernel_rfl
theorem nagg_36 : NAgg Tryd.prog 36 := fun _ => by kernel_rfl
theorem agg_39 : Agg Tryd.prog 39 2 := ⟨fun _ => by kernel_rfl, fun _ => by kernel_rfl⟩
theorem size_39 (w : World) : (sizeOf 39).run Tryd.prog w = .ok 2 w := by kernel_rfl
theorem zero_39 (w : World) : (zeroValue 39).run Tryd.prog w = .ok (.agg #[.pointer none, .pointer none]) w := by kernel_rfl
theorem agg_52 : Agg Tryd.prog 52 2 := ⟨fun _ => by kernel_rfl, fun _ => by kernel_rfl⟩
theorem size_52 (w : World) : (sizeOf 52).run Tryd.prog w = .ok 2 w := by kernel_rfl
theorem zero_52 (w : World) : (zeroValue 52).run Tryd.prog w = .ok (.agg #[.int .i64 0, .int .i64 0]) w := by kernel_rfl
theorem agg_59 : Agg Tryd.prog 59 2 := ⟨fun _ => by kernel_rfl, fun _ => by kernel_rfl⟩
theorem agg_61 : Agg Tryd.prog 61 5 := ⟨fun _ => by kernel_rfl, fun _ => by kernel_rfl⟩
theorem size_61 (w : World) : (sizeOf 61).run Tryd.prog w = .ok 5 w := by kernel_rfl
theorem zero_61 (w : World) : (zeroValue 61).run Tryd.prog w = .ok (.agg #[.string (⟨#[]⟩ : ByteArray), .int .i64 0, .int .i64 0, .string (⟨#[]⟩ : ByteArray), .bool false]) w := by kernel_rfl
theorem nagg_80 : NAgg Tryd.prog 80 := fun _ => by kernel_rfl
theorem nagg_114 : NAgg Tryd.prog 114 := fun _ => by kernel_rfl
theorem size_116 (w : World) : (sizeOf 116).run Tryd.prog w = .ok 10 w := by kernel_rfl
theorem nagg_126 : NAgg Tryd.prog 126 := fun _ => by kernel_rfl
theorem nagg_127 : NAgg Tryd.prog 127 := fun _ => by kernel_rfl
theorem size_127 (w : World) : (sizeOf 127).run Tryd.prog w = .ok 1 w := by kernel_rfl
theorem nagg_136 : NAgg Tryd.prog 136 := fun _ => by kernel_rfl
theorem size_136 (w : World) : (sizeOf 136).run Tryd.prog w = .ok 1 w := by kernel_rfl
theorem zero_136 (w : World) : (zeroValue 136).run Tryd.prog w = .ok (.nilFunc) w := by kernel_rfl
theorem nagg_177 : NAgg Tryd.prog 177 := fun _ => by kernel_rfl
theorem size_177 (w : World) : (sizeOf 177).run Tryd.prog w = .ok 1 w := by kernel_rfl
theorem zero_177 (w : World) : (zeroValue 177).run Tryd.prog w = .ok (.pointer none) w := by kernel_rfl
theorem size_215 (w : World) : (sizeOf 215).run Tryd.prog w = .ok 3 w := by kernel_rfl
theorem zero_215 (w : World) : (zeroValue 215).run Tryd.prog w = .ok (.agg #[.int .u64 0, .int .u64 0, .int .i64 0]) w := by kernel_rfl
theorem agg_216 : Agg Tryd.prog 216 6 := ⟨fun _ => by kernel_rfl, fun _ => by kernel_rfl⟩
theorem body_9 : HasBody Tryd.prog 9 := fun _ _ => by kernel_rfl
theorem body_10 : HasBody Tryd.prog 10 := fun _ _ => by kernel_rfl
theorem body_11 : HasBody Tryd.prog 11 := fun _ _ => by kernel_rfl
theorem body_12 : HasBody Tryd.prog 12 := fun _ _ => by kernel_rfl
theorem body_16 : HasBody Tryd.prog 16 := fun _ _ => by kernel_rfl
theorem body_17 : HasBody Tryd.prog 17 := fun _ _ => by kernel_rfl
theorem body_18 : HasBody Tryd.prog 18 := fun _ _ => by kernel_rfl
theorem body_19 : HasBody Tryd.prog 19 := fun _ _ => by kernel_rfl
theorem body_20 : HasBody Tryd.prog 20 := fun _ _ => by kernel_rfl
theorem body_21 : HasBody Tryd.prog 21 := fun _ _ => by kernel_rfl
theorem body_22 : HasBody Tryd.prog 22 := fun _ _ => by kernel_rfl
theorem body_25 : HasBody Tryd.prog 25 := fun _ _ => by kernel_rfl
theorem body_27 : HasBody Tryd.prog 27 := fun _ _ => by kernel_rfl
theorem body_29 : HasBody Tryd.prog 29 := fun _ _ => by kernel_rfl
theorem body_32 : HasBody Tryd.prog 32 := fun _ _ => by kernel_rfl
theorem body_40 : HasBody Tryd.prog 40 := fun _ _ => by kernel_rfl
theorem body_41 : HasBody Tryd.prog 41 := fun _ _ => by kernel_rfl
theorem body_42 : HasBody Tryd.prog 42 := fun _ _ => by kernel_rfl
theorem body_43 : HasBody Tryd.prog 43 := fun _ _ => by kernel_rfl
theorem body_45 : HasBody Tryd.prog 45 := fun _ _ => by kernel_rfl
theorem body_47 : HasBody Tryd.prog 47 := fun _ _ => by kernel_rfl
theorem body_49 : HasBody Tryd.prog 49 := fun _ _ => by kernel_rfl
theorem body_50 : HasBody Tryd.prog 50 := fun _ _ => by kernel_rfl
theorem body_51 : HasBody Tryd.prog 51 := fun _ _ => by kernel_rfl
theorem body_52 : HasBody Tryd.prog 52 := fun _ _ => by kernel_rfl
theorem body_53 : HasBody Tryd.prog 53 := fun _ _ => by kernel_rfl
theorem body_54 : HasBody Tryd.prog 54 := fun _ _ => by kernel_rfl
theorem body_55 : HasBody Tryd.prog 55 := fun _ _ => by kernel_rfl
theorem body_56 : HasBody Tryd.prog 56 := fun _ _ => by kernel_rfl
theorem body_57 : HasBody Tryd.prog 57 := fun _ _ => by kernel_rfl
theorem body_58 : HasBody Tryd.prog 58 := fun _ _ => by kernel_rfl
theorem body_63 : HasBody Tryd.prog 63 := fun _ _ => by kernel_rfl
theorem body_64 : HasBody Tryd.prog 64 := fun _ _ => by kernel_rfl
theorem body_65 : HasBody Tryd.prog 65 := fun _ _ => by kernel_rfl
theorem body_66 : HasBody Tryd.prog 66 := fun _ _ => by kernel_rfl
theorem body_67 : HasBody Tryd.prog 67 := fun _ _ => by kernel_rfl
theorem body_69 : HasBody Tryd.prog 69 := fun _ _ => by kernel_rfl
theorem body_70 : HasBody Tryd.prog 70 := fun _ _ => by kernel_rfl
theorem body_71 : HasBody Tryd.prog 71 := fun _ _ => by kernel_rfl
theorem body_76 : HasBody Tryd.prog 76 := fun _ _ => by kernel_rfl
theorem body_98 : HasBody Tryd.prog 98 := fun _ _ => by kernel_rfl
theorem body_99 : HasBody Tryd.prog 99 := fun _ _ => by kernel_rfl
theorem body_100 : HasBody Tryd.prog 100 := fun _ _ => by kernel_rfl
theorem body_101 : HasBody Tryd.prog 101 := fun _ _ => by kernel_rfl
theorem body_102 : HasBody Tryd.prog 102 := fun _ _ => by kernel_rfl
theorem body_103 : HasBody Tryd.prog 103 := fun _ _ => by kernel_rfl
theorem body_105 : HasBody Tryd.prog 105 := fun _ _ => by kernel_rfl
theorem body_106 : HasBody Tryd.prog 106 := fun _ _ => by kernel_rfl
theorem body_107 : HasBody Tryd.prog 107 := fun _ _ => by kernel_rfl
theorem body_108 : HasBody Tryd.prog 108 := fun _ _ => by kernel_rfl
theorem body_109 : HasBody Tryd.prog 109 := fun _ _ => by kernel_rfl
theorem body_110 : HasBody Tryd.prog 110 := fun _ _ => by kernel_rfl
theorem body_111 : HasBody Tryd.prog 111 := fun _ _ => by kernel_rfl
theorem body_112 : HasBody Tryd.prog 112 := fun _ _ => by kernel_rfl
theorem body_113 : HasBody Tryd.prog 113 := fun _ _ => by kernel_rfl
theorem body_115 : HasBody Tryd.prog 115 := fun _ _ => by kernel_rfl
theorem body_116 : HasBody Tryd.prog 116 := fun _ _ => by kernel_rfl
theorem body_117 : HasBody Tryd.prog 117 := fun _ _ => by kernel_rfl
theorem body_118 : HasBody Tryd.prog 118 := fun _ _ => by kernel_rfl
theorem body_123 : HasBody Tryd.prog 123 := fun _ _ => by kernel_rfl
theorem body_132 : HasBody Tryd.prog 132 := fun _ _ => by kernel_rfl
theorem body_133 : HasBody Tryd.prog 133 := fun _ _ => by kernel_rfl
theorem body_136 : HasBody Tryd.prog 136 := fun _ _ => by kernel_rfl
theorem body_137 : HasBody Tryd.prog 137 := fun _ _ => by kernel_rfl
theorem body_138 : HasBody Tryd.prog 138 := fun _ _ => by kernel_rfl
theorem body_139 : HasBody Tryd.prog 139 := fun _ _ => by kernel_rfl
theorem body_140 : HasBody Tryd.prog 140 := fun _ _ => by kernel_rfl
theorem body_141 : HasBody Tryd.prog 141 := fun _ _ => by kernel_rfl
theorem body_143 : HasBody Tryd.prog 143 := fun _ _ => by kernel_rfl
theorem body_147 : HasBody Tryd.prog 147 := fun _ _ => by kernel_rfl
theorem body_148 : HasBody Tryd.prog 148 := fun _ _ => by kernel_rfl
theorem body_151 : HasBody Tryd.prog 151 := fun _ _ => by kernel_rfl
theorem body_152 : HasBody Tryd.prog 152 := fun _ _ => by kernel_rfl
theorem body_153 : HasBody Tryd.prog 153 := fun _ _ => by kernel_rfl
theorem body_155 : HasBody Tryd.prog 155 := fun _ _ => by kernel_rfl
end Go.Proofs.YtcopemgkjbaaeaaDoor
namespace Go.Proofs.YtcopemgkjbaaeaaDoor
set_option linter.all false
open Go.RowKit
def nodeCells (e : Ent) (s : Tal) (pl pr : Option Addr) (m h : Int) : Array Value :=
  #[.string e.key, .string e.key, .int .i64 e.c, .int .i64 e.n, .string e.val, .bool e.dead, .int .i64 e.tal.k, .int .u64 e.tal.a, .int .u64 e.tal.b,
    .int .i64 s.k, .int .u64 s.a, .int .u64 s.b, .pointer pl, .pointer pr, .int .i64 m, .int .i64 h]
def IsT (w : World) : Option Addr → T → Prop
  | p, .nil => p = none
  | p, .node e l r => ∃ (g : Nat) (pl pr : Option Addr), p = some ⟨g, 0, none⟩ ∧ Blk w g 181 (nodeCells e (T.node e l r).sum pl pr ((T.node e l r).size : Nat) ((T.node e l r).high : Nat)) ∧ IsT w pl l ∧ IsT w pr r
def NoNode (w : World) (X : List Nat) : Prop := ∀ g cs, g ∈ X → ¬ Blk w g 181 cs
theorem NoNode.nil (w : World) : NoNode w [] := fun _ _ h => by cases h
theorem NoNode.one {w : World} {g : Nat} {t : TypeId} {cs : Array Value} (h : Blk w g t cs) (ht : t ≠ 181) : NoNode w [g] := fun k cs' hk hb => by
  simp at hk
  exact Blk.ne_ h hb ht hk.symm
theorem IsT.ext {w w' : World} {X : List Nat} (h : Ext X w w') (hX : NoNode w X) : ∀ {t : T} {p : Option Addr}, IsT w p t → IsT w' p t
  | .nil, _, ht => ht
  | .node _ _ _, _, ⟨g, pl, pr, hp, hb, hl, hr⟩ => ⟨g, pl, pr, hp, hb.ext h fun hx => hX _ _ hx hb, IsT.ext h hX hl, IsT.ext h hX hr⟩
theorem IsT.heap {w w' : World} (hh : w'.heap = w.heap) : ∀ {t : T} {p : Option Addr}, IsT w p t → IsT w' p t
  | .nil, _, ht => ht
  | .node _ _ _, _, ⟨g, pl, pr, hp, hb, hl, hr⟩ => ⟨g, pl, pr, hp, by unfold Blk at *; rw [hh]; exact hb, IsT.heap hh hl, IsT.heap hh hr⟩
theorem IsT.to {w w' : World} {X : List Nat} {t : T} {p : Option Addr} (ht : IsT w p t) (h : Ext X w w') (hX : NoNode w X) : IsT w' p t := IsT.ext h hX ht
theorem high_cr {w : World} {p : Option Addr} {t : T} (h : IsT w p t) : CR Tryd.prog 155 [.pointer p] w fun v w' => v = .int .i64 (t.high : Nat) ∧ w = w' := by
  have st := St.init w []
  cases t with
  | nil =>
    obtain rfl : p = none := h
    refine CR_enter Tryd.func155 rfl Tryd.ntmps155 rfl ?_
    refine W_seq <| W_region <| RP_sg 1 [.p (.int .i64 0)] [(0, .pointer none)] trivial ?_
    refine RP_nil <| n_then <| W_seq <| W_seq <| W_region <| RP_sg 2 [.p (.pointer none), .p (.bool true)] [(0, .pointer none), (4, .bool true)] trivial ?_
    refine RP_nil <| n_then <| W_true rfl ?_
    refine W_seq <| W_region <| RP_sg 1 [.p (.int .i64 0)] [(2, .int .i64 0)] trivial ?_
    refine RP_nil <| n_then <| W_ret <| r_then ?_
    refine ret_of (P := Tryd.prog) (fn := Tryd.f155) (m := [(2, .int .i64 0)]) (w := w) (res1 rfl (rv_tmp rfl)) ?_
    exact ⟨rfl, rfl⟩
  | node e l r =>
    obtain ⟨g, pl, pr, rfl, hb, -, -⟩ := h
    generalize ((T.node e l r).size : Nat) = mm at *
    generalize ((T.node e l r).high : Nat) = hh at *
    generalize (T.node e l r).sum = s at *
    refine CR_enter Tryd.func155 rfl Tryd.ntmps155 rfl ?_
    refine W_seq <| W_region ?_
    let a1 : Value := .pointer (some ⟨g, 0, none⟩)
    refine RP_sg 1 [.p (.int .i64 0)] [(0, a1)] trivial ?_
    refine RP_nil <| n_then <| W_seq <| W_seq <| W_region <| RP_sg 2 [.p a1, .p (.bool false)] [(0, a1), (4, .bool false)] trivial ?_
    refine RP_nil <| n_then <| W_false rfl ?_
    refine W_skip <| n_then <| W_seq <| W_region <| RP_sg 5 [.p a1, .p a1, .p (.pointer (some ⟨g, 15, none⟩)), .l 3 (.pointer (some ⟨g, 15, none⟩)) (.int .i64 hh), .p (.int .i64 hh)] [(2, .int .i64 hh)] ⟨ld1b (hb.ext st.ext List.not_mem_nil) nagg_3 rfl, trivial⟩ ?_
    refine RP_nil <| n_then <| W_ret <| ret_of (P := Tryd.prog) (fn := Tryd.f155) (m := [(2, .int .i64 hh)]) (w := w) (res1 rfl (rv_tmp rfl)) ?_
    exact ⟨rfl, rfl⟩
theorem many_cr {w : World} {p : Option Addr} {t : T} (h : IsT w p t) : CR Tryd.prog 116 [.pointer p] w fun v w' => v = .int .i64 (t.size : Nat) ∧ w = w' := by
  have st := St.init w []
  cases t with
  | nil =>
    obtain rfl : p = none := h
    refine CR_enter Tryd.func116 rfl Tryd.ntmps116 rfl ?_
    refine W_seq <| W_region <| RP_sg 1 [.p (.int .i64 0)] [(0, .pointer none)] trivial ?_
    refine RP_nil <| n_then <| W_seq <| W_seq <| W_region <| RP_sg 2 [.p (.pointer none), .p (.bool true)] [(0, .pointer none), (4, .bool true)] trivial ?_
    refine RP_nil <| n_then <| W_true rfl ?_
    refine W_seq <| W_region <| RP_sg 1 [.p (.int .i64 0)] [(2, .int .i64 0)] trivial ?_
    refine RP_nil <| n_then <| W_ret <| r_then ?_
    refine ret_of (P := Tryd.prog) (fn := Tryd.f116) (m := [(2, .int .i64 0)]) (w := w) (res1 rfl (rv_tmp rfl)) ?_
    exact ⟨rfl, rfl⟩
  | node e l r =>
    obtain ⟨g, pl, pr, rfl, hb, -, -⟩ := h
    generalize ((T.node e l r).size : Nat) = mm at *
    generalize ((T.node e l r).high : Nat) = hh at *
    generalize (T.node e l r).sum = s at *
    refine CR_enter Tryd.func116 rfl Tryd.ntmps116 rfl ?_
    refine W_seq <| W_region ?_
    let a1 : Value := .pointer (some ⟨g, 0, none⟩)
    refine RP_sg 1 [.p (.int .i64 0)] [(0, a1)] trivial ?_
    refine RP_nil <| n_then <| W_seq <| W_seq <| W_region <| RP_sg 2 [.p a1, .p (.bool false)] [(0, a1), (4, .bool false)] trivial ?_
    refine RP_nil <| n_then <| W_false rfl ?_
    refine W_skip <| n_then <| W_seq <| W_region <| RP_sg 5 [.p a1, .p a1, .p (.pointer (some ⟨g, 14, none⟩)), .l 3 (.pointer (some ⟨g, 14, none⟩)) (.int .i64 mm), .p (.int .i64 mm)] [(2, .int .i64 mm)] ⟨ld1b (hb.ext st.ext List.not_mem_nil) nagg_3 rfl, trivial⟩ ?_
    refine RP_nil <| n_then <| W_ret <| ret_of (P := Tryd.prog) (fn := Tryd.f116) (m := [(2, .int .i64 mm)]) (w := w) (res1 rfl (rv_tmp rfl)) ?_
    exact ⟨rfl, rfl⟩
theorem mix_add (a b c d : Int) (w : World) : CR Tryd.prog 76 [.agg #[.int .u64 a, .int .u64 b], .agg #[.int .u64 c, .int .u64 d]] w fun v w' =>
    v = .agg #[.int .u64 (wu (a + c)), .int .u64 (wu (b + d))] ∧ Ext [] w w' := by
  have st := St.init w []
  refine CR_enter Tryd.func76 rfl Tryd.ntmps76 rfl ?_
  refine W_seq <| W_region <| RP_e rfl (ef_box st rfl rfl) ?_
  rintro _ w1 ⟨g4, rfl, hg4, hg4', st2, hx3⟩
  replace st2 : St [] w w1 [(g4, 30, [.int .u64 a, .int .u64 b])] := st2
  refine RP_e rfl (ef_box st2 rfl rfl) ?_
  rintro _ w5 ⟨g8, rfl, hg8, hg8', st6, hx7⟩
  replace st6 : St [] w w5 [(g8, 30, [.int .u64 c, .int .u64 d]), (g4, 30, [.int .u64 a, .int .u64 b])] := st6
  refine RP_e rfl (ef_alloc st6 zero_30 rfl) ?_
  rintro _ w9 ⟨g12, rfl, hg12, hg12', st10, hx11⟩
  replace st10 : St [] w w9 [(g12, 30, [.int .u64 0, .int .u64 0]), (g8, 30, [.int .u64 c, .int .u64 d]), (g4, 30, [.int .u64 a, .int .u64 b])] := st10
  let a13 : Value := .pointer (some ⟨g4, 0, none⟩)
  let a14 : Value := .pointer (some ⟨g8, 0, none⟩)
  let a15 : Value := .pointer (some ⟨g12, 0, none⟩)
  refine RP_pk [(2, a13), (3, a14), (4, a15)] ?_
  refine RP_nil <| n_then <| W_seq <| W_region ?_
  let a16 : Value := .agg #[.int .u64 (IntKind.u64.wrap (a + c)), .int .u64 (IntKind.u64.wrap (b + d))]
  refine RP_sg 11 [.p a13, .l 28 a13 (.int .u64 a), .p a14, .l 28 a14 (.int .u64 c), .p (.int .u64 (IntKind.u64.wrap (a + c))), .p (.pointer (some ⟨g4, 1, none⟩)), .l 28 (.pointer (some ⟨g4, 1, none⟩)) (.int .u64 b), .p (.pointer (some ⟨g8, 1, none⟩)), .l 28 (.pointer (some ⟨g8, 1, none⟩)) (.int .u64 d), .p (.int .u64 (IntKind.u64.wrap (b + d))), .p a16] [(4, a15), (15, a16)] ⟨ld1 st10 nagg_28 2 rfl rfl, ld1 st10 nagg_28 1 rfl rfl, ld1 st10 nagg_28 2 rfl rfl, ld1 st10 nagg_28 1 rfl rfl, trivial⟩ ?_
  refine RP_e rfl (ef_store st10 rfl rfl rfl size_30 0 rfl rfl rfl rfl (.inr hg12)) ?_
  rintro _ w17 ⟨rfl, st18, hx19⟩
  replace st18 : St [] w w17 [(g12, 30, [.int .u64 (IntKind.u64.wrap (a + c)), .int .u64 (IntKind.u64.wrap (b + d))]), (g8, 30, [.int .u64 c, .int .u64 d]), (g4, 30, [.int .u64 a, .int .u64 b])] := st18
  refine RP_pk [(4, a15)] ?_
  refine RP_nil <| n_then <| W_ret <| ret_of (P := Tryd.prog) (fn := Tryd.f76) (m := [(4, .pointer (some ⟨g12, 0, none⟩))]) (w := w17) (res1 rfl (rv_cell rfl (by simpa [Instr.loadAt, Instr.sureAddr] using (ldN st18 agg_30 0 rfl rfl rfl)))) ?_
  exact ⟨rfl, st18.ext⟩
theorem tally_join (s t : Tal) (w : World) : CR Tryd.prog 32 [s.v, t.v] w fun v w' => v = (s.join t).v ∧ Ext [] w w' := by
  have st := St.init w []
  refine CR_enter Tryd.func32 rfl Tryd.ntmps32 rfl ?_
  refine W_seq <| W_region <| RP_e rfl (ef_box st rfl rfl) ?_
  rintro _ w1 ⟨g4, rfl, hg4, hg4', st2, hx3⟩
  replace st2 : St [] w w1 [(g4, 32, [.int .i64 s.k, .int .u64 s.a, .int .u64 s.b])] := st2
  refine RP_e rfl (ef_box st2 rfl rfl) ?_
  rintro _ w5 ⟨g8, rfl, hg8, hg8', st6, hx7⟩
  replace st6 : St [] w w5 [(g8, 32, [.int .i64 t.k, .int .u64 t.a, .int .u64 t.b]), (g4, 32, [.int .i64 s.k, .int .u64 s.a, .int .u64 s.b])] := st6
  refine RP_e rfl (ef_alloc st6 zero_32 rfl) ?_
  rintro _ w9 ⟨g12, rfl, hg12, hg12', st10, hx11⟩
  replace st10 : St [] w w9 [(g12, 32, [.int .i64 0, .int .u64 0, .int .u64 0]), (g8, 32, [.int .i64 t.k, .int .u64 t.a, .int .u64 t.b]), (g4, 32, [.int .i64 s.k, .int .u64 s.a, .int .u64 s.b])] := st10
  let a13 : Value := .pointer (some ⟨g4, 0, none⟩)
  let a14 : Value := .pointer (some ⟨g8, 0, none⟩)
  let a15 : Value := .pointer (some ⟨g12, 0, none⟩)
  refine RP_pk [(2, a13), (3, a14), (4, a15)] ?_
  refine RP_nil <| n_then <| W_seq <| W_regionS ⟨(fun w' => Blk w' g8 32 [.int .i64 t.k, .int .u64 t.a, .int .u64 t.b].toArray ∧ Blk w' g4 32 [.int .i64 s.k, .int .u64 s.a, .int .u64 s.b].toArray), (fun _ => True)⟩ (.cons 1 0 (.cons 1 1 (.cons 1 2 (.cons 1 3 (.cons 1 4 (.cons 1 5 (.cons 1 6 (.cons 1 7 (.cons 1 8 (.cons 2 9 (.cons 1 10 (.cons 3 11 .nil)))))))))))) 12 (by kernel_rfl) (by kernel_rfl) ?_
  have st16 := st10.drew
  let a17 : Value := .agg #[.int .u64 s.a, .int .u64 s.b]
  let a18 : Value := .agg #[.int .u64 t.a, .int .u64 t.b]
  refine RS_sg 9 [.p a13, .l 3 a13 (.int .i64 s.k), .p a14, .l 3 a14 (.int .i64 t.k), .p (.int .i64 (IntKind.i64.wrap (s.k + t.k))), .p (.pointer (some ⟨g4, 1, none⟩)), .l 30 (.pointer (some ⟨g4, 1, none⟩)) a17, .p (.pointer (some ⟨g8, 1, none⟩)), .l 30 (.pointer (some ⟨g8, 1, none⟩)) a18] [(4, a15), (9, .int .i64 (IntKind.i64.wrap (s.k + t.k))), (11, a17), (13, a18)] (⟨st16.get 1 rfl, st16.get 2 rfl⟩) (fun _ hS => ⟨ld1b (hS.2) nagg_3 rfl, ld1b (hS.1) nagg_3 rfl, ldNb (hS.2) agg_30 rfl rfl, ldNb (hS.1) agg_30 rfl rfl, trivial⟩) ?_
  refine RS_e rfl rfl (ef_call (k := 76) (args := [a17, a18]) (mix_add _ _ _ _ _) body_76 (by kernel_rfl)) ?_
  rintro _ w19 ⟨_, rfl, rfl, hx21⟩
  have st20 := st16.call0 hx21
  refine ⟨⟨st20.get 1 rfl, st20.get 2 rfl⟩, ?_⟩
  let a22 : Value := .agg #[.int .i64 (IntKind.i64.wrap (s.k + t.k)), .int .u64 (wu (s.a + t.a)), .int .u64 (wu (s.b + t.b))]
  refine RS_sg 1 [.p a22] [(4, a15), (15, a22)] (⟨st20.get 1 rfl, st20.get 2 rfl⟩) (fun _ hS => trivial) ?_
  refine RS_f rfl rfl (ef_store st20 rfl rfl rfl size_32 0 rfl rfl rfl rfl (.inr hg12)) ?_
  rintro _ w23 ⟨rfl, st24, hx25⟩
  replace st24 : St [] w w23 [(g12, 32, [.int .i64 (IntKind.i64.wrap (s.k + t.k)), .int .u64 (wu (s.a + t.a)), .int .u64 (wu (s.b + t.b))]), (g8, 32, [.int .i64 t.k, .int .u64 t.a, .int .u64 t.b]), (g4, 32, [.int .i64 s.k, .int .u64 s.a, .int .u64 s.b])] := st24
  refine RS_pk [(4, a15)] ?_
  refine RS_nil <| n_then <| W_ret <| ret_of (P := Tryd.prog) (fn := Tryd.f32) (m := [(4, .pointer (some ⟨g12, 0, none⟩))]) (w := w23) (res1 rfl (rv_cell rfl (by simpa [Instr.loadAt, Instr.sureAddr] using (ldN st24 agg_32 0 rfl rfl rfl)))) ?_
  exact ⟨by rw [w64]; rfl, st24.ext⟩
theorem meter_join (s t : Tal) (g : Nat) (j : Int) (w : World) (h : Blk w g 205 #[.int .i64 j]) : CR Tryd.prog 101 [.pointer (some ⟨g, 0, none⟩), s.v, t.v] w fun v w' =>
    v = (s.join t).v ∧ Blk w' g 205 #[.int .i64 (IntKind.i64.wrap (j + 1))] ∧ Ext [g] w w' := by
  have st := (St.init w [g]).add h (by simp)
  refine CR_enter Tryd.func101 rfl Tryd.ntmps101 rfl ?_
  refine W_seq <| W_region <| RP_e rfl (ef_box st rfl rfl) ?_
  rintro _ w1 ⟨g4, rfl, hg4, hg4', st2, hx3⟩
  replace st2 : St [g] w w1 [(g4, 32, [.int .i64 s.k, .int .u64 s.a, .int .u64 s.b]), (g, 205, [.int .i64 j])] := st2
  refine RP_e rfl (ef_box st2 rfl rfl) ?_
  rintro _ w5 ⟨g8, rfl, hg8, hg8', st6, hx7⟩
  replace st6 : St [g] w w5 [(g8, 32, [.int .i64 t.k, .int .u64 t.a, .int .u64 t.b]), (g4, 32, [.int .i64 s.k, .int .u64 s.a, .int .u64 s.b]), (g, 205, [.int .i64 j])] := st6
  refine RP_e rfl (ef_alloc st6 zero_32 rfl) ?_
  rintro _ w9 ⟨g12, rfl, hg12, hg12', st10, hx11⟩
  replace st10 : St [g] w w9 [(g12, 32, [.int .i64 0, .int .u64 0, .int .u64 0]), (g8, 32, [.int .i64 t.k, .int .u64 t.a, .int .u64 t.b]), (g4, 32, [.int .i64 s.k, .int .u64 s.a, .int .u64 s.b]), (g, 205, [.int .i64 j])] := st10
  let a13 : Value := .pointer (some ⟨g, 0, none⟩)
  let a14 : Value := .pointer (some ⟨g4, 0, none⟩)
  let a15 : Value := .pointer (some ⟨g8, 0, none⟩)
  let a16 : Value := .pointer (some ⟨g12, 0, none⟩)
  refine RP_pk [(0, a13), (4, a14), (5, a15), (6, a16)] ?_
  refine RP_nil <| n_then <| W_seq <| W_region <| RP_sg 7 [.p a13, .p a13, .p a13, .l 3 a13 (.int .i64 j), .p (.int .i64 (IntKind.i64.wrap (j + 1))), .p a13, .p a13] [(4, a14), (5, a15), (6, a16), (11, .int .i64 (IntKind.i64.wrap (j + 1))), (13, a13)] ⟨ld1 st10 nagg_3 3 rfl rfl, trivial⟩ ?_
  refine RP_e rfl (ef_store st10 rfl rfl rfl size_3 3 rfl rfl rfl rfl (.inl (by simp))) ?_
  rintro _ w17 ⟨rfl, st18, hx19⟩
  replace st18 : St [g] w w17 [(g12, 32, [.int .i64 0, .int .u64 0, .int .u64 0]), (g8, 32, [.int .i64 t.k, .int .u64 t.a, .int .u64 t.b]), (g4, 32, [.int .i64 s.k, .int .u64 s.a, .int .u64 s.b]), (g, 205, [.int .i64 (IntKind.i64.wrap (j + 1))])] := st18
  refine RP_pk [(4, a14), (5, a15), (6, a16)] ?_
  refine RP_nil <| n_then <| W_seq <| W_region ?_
  let a20 : Value := .agg #[.int .i64 s.k, .int .u64 s.a, .int .u64 s.b]
  let a21 : Value := .agg #[.int .i64 t.k, .int .u64 t.a, .int .u64 t.b]
  refine RP_sg 2 [.l 32 a14 a20, .l 32 a15 a21] [(6, a16), (14, a20), (15, a21)] ⟨ldN st18 agg_32 2 rfl rfl rfl, ldN st18 agg_32 1 rfl rfl rfl, trivial⟩ ?_
  refine RP_e rfl (ef_call (k := 32) (args := [a20, a21]) (tally_join s t _) body_32 (by kernel_rfl)) ?_
  rintro _ w22 ⟨_, rfl, rfl, hx24⟩
  have st23 := st18.call0 hx24
  refine RP_e rfl (ef_store st23 rfl rfl rfl size_32 0 rfl rfl rfl rfl (.inr hg12)) ?_
  rintro _ w25 ⟨rfl, st26, hx27⟩
  replace st26 : St [g] w w25 [(g12, 32, [.int .i64 ((s.join t).k), .int .u64 ((s.join t).a), .int .u64 ((s.join t).b)]), (g8, 32, [.int .i64 t.k, .int .u64 t.a, .int .u64 t.b]), (g4, 32, [.int .i64 s.k, .int .u64 s.a, .int .u64 s.b]), (g, 205, [.int .i64 (IntKind.i64.wrap (j + 1))])] := st26
  refine RP_pk [(6, a16)] ?_
  refine RP_nil <| n_then <| W_ret <| ret_of (P := Tryd.prog) (fn := Tryd.f101) (m := [(6, .pointer (some ⟨g12, 0, none⟩))]) (w := w25) (res1 rfl (rv_cell rfl (by simpa [Instr.loadAt, Instr.sureAddr] using (ldN st26 agg_32 0 rfl rfl rfl)))) ?_
  exact ⟨rfl, st26.get 3 rfl, st26.ext⟩
end Go.Proofs.YtcopemgkjbaaeaaDoor
namespace Go.Proofs.YtcopemgkjbaaeaaDoor
set_option linter.all false
open Go.RowKit
def addj : Int → Nat → Int
  | j, 0 => j
  | j, k + 1 => addj (IntKind.i64.wrap (j + 1)) k
theorem addj_add : ∀ (k : Nat) (j : Int) (m : Nat), addj (addj j k) m = addj j (k + m)
  | 0, j, m => by simp [addj]
  | k + 1, j, m => by rw [show k + 1 + m = (k + m) + 1 from by omega]; exact addj_add k _ m
theorem wrap_small {x : Int} (h0 : 0 ≤ x) (h : x < 9223372036854775808) : IntKind.i64.wrap x = x := by rw [w64]; unfold wrap64; omega
def T.joins : T → T → Nat
  | l, r => (if l.isNil then 0 else 1) + (if r.isNil then 0 else 1)
structure Tr (w : World) (bt bm : Nat) (j : Int) (p : Option Addr) : Prop where
  t : Blk w bt 179 #[.int .i64 0, .int .u64 0, .int .u64 0, .func (.func 101) #[.pointer (some ⟨bm, 0, none⟩)] #[], .pointer p]
  m : Blk w bm 205 #[.int .i64 j]
theorem Tr.ne {w : World} {bt bm : Nat} {j : Int} {p : Option Addr} (h : Tr w bt bm j p) : bt ≠ bm := h.t.ne_ h.m (by decide)
theorem NoNode.meter {w : World} {bm : Nat} {cs : Array Value} (h : Blk w bm 205 cs) : NoNode w [bm] := NoNode.one h (by decide)
theorem size_w {l r : Nat} (hs : l + r ≤ 1000000) : IntKind.i64.wrap (IntKind.i64.wrap ((l : Int) + 1) + (r : Int)) = ((l + 1 + r : Nat) : Int) := by
  rw [wrap_small (x := (l : Int) + 1) (by omega) (by omega), wrap_small (by omega) (by omega)]; omega
theorem high_w {l r : Nat} (hl : l ≤ 1000000) (hr : r ≤ 1000000) : IntKind.i64.wrap (1 + if (r : Int) > (l : Int) then (r : Int) else (l : Int)) = ((1 + max l r : Nat) : Int) := by
  rw [wrap_small (by split <;> omega) (by split <;> omega)]; split <;> omega
theorem over_cr {w : World} {bt bm : Nat} {j : Int} {p pl pr : Option Addr} {gx : Nat} {e : Ent} {s : Tal} {ql qr : Option Addr} {m0 h0 : Int} {l r : T}
    (hT : Tr w bt bm j p) (hx : Blk w gx 181 (nodeCells e s ql qr m0 h0)) (hl : IsT w pl l) (hr : IsT w pr r) (hs : l.size + r.size ≤ 1000000) :
    CR Tryd.prog 147 [.pointer (some ⟨bt, 0, none⟩), .pointer (some ⟨gx, 0, none⟩), .pointer pl, .pointer pr] w fun v w' =>
      ∃ g, v = .pointer (some ⟨g, 0, none⟩) ∧ w.heap.size ≤ g ∧ IsT w' (some ⟨g, 0, none⟩) (.node e l r) ∧ Tr w' bt bm (addj j (T.joins l r)) p ∧ Ext [bm] w w' := by
  have hl1 := l.high_le_size
  have hr1 := r.high_le_size
  have hnt : bt ∉ [bm] := by simpa using hT.ne
  have hnx : gx ∉ [bm] := by simpa using (hx.ne_ hT.m (by decide))
  have hno := NoNode.meter hT.m
  have st := (St.init w [bm]).add hT.m (by simp)
  have htb := hT.t
  have hbm := hT.m
  have hmlt := hT.m.lt
  have wsz := size_w hs
  have whi := high_w (l := l.high) (r := r.high) (by omega) (by omega)
  have hl' := hl
  have hr' := hr
  cases l with
  | nil =>
    obtain rfl : pl = none := hl
    cases r with
    | nil =>
      obtain rfl : pr = none := hr
      refine CR_enter Tryd.func147 rfl Tryd.ntmps147 rfl ?_
      refine W_seq <| W_region ?_
      let a1 : Value := .pointer (some ⟨bt, 0, none⟩)
      let a2 : Value := .pointer (some ⟨gx, 0, none⟩)
      refine RP_sg 1 [.p (.pointer none)] [(0, a1), (1, a2), (2, .pointer none), (3, .pointer none)] trivial ?_
      refine RP_nil <| n_then <| W_seq <| W_regionS ⟨(fun w' => Blk w' gx 181 [.string e.key, .string e.key, .int .i64 e.c, .int .i64 e.n, .string e.val, .bool e.dead, .int .i64 e.tal.k, .int .u64 e.tal.a, .int .u64 e.tal.b, .int .i64 s.k, .int .u64 s.a, .int .u64 s.b, .pointer ql, .pointer qr, .int .i64 m0, .int .i64 h0].toArray), (fun _ => True)⟩ (.cons 1 0 (.cons 1 1 (.cons 1 2 (.cons 1 3 (.cons 1 4 (.cons 1 5 (.cons 1 6 (.cons 1 7 (.cons 1 8 (.cons 1 9 (.cons 1 10 (.cons 1 11 (.cons 1 12 (.cons 1 13 (.cons 1 14 (.cons 1 15 (.cons 1 16 (.cons 1 17 (.cons 1 18 (.cons 1 21 (.cons 1 24 (.cons 1 26 (.cons 2 19 (.cons 1 20 (.cons 2 22 (.cons 1 23 (.cons 2 25 (.cons 2 27 (.cons 1 28 (.cons 1 29 (.cons 1 30 (.cons 2 31 (.cons 0 32 .nil))))))))))))))))))))))))))))))))) 33 (by kernel_rfl) (by kernel_rfl) ?_
      have st3 := st.drew
      let a4 : Value := .agg #[.string e.key, .int .i64 e.c, .int .i64 e.n, .string e.val, .bool e.dead]
      let a5 : Value := .agg #[.int .i64 e.tal.k, .int .u64 e.tal.a, .int .u64 e.tal.b]
      refine RS_sg 22 [.p a2, .p a2, .p a2, .l 9 a2 (.string e.key), .p a2, .p a2, .p (.pointer (some ⟨gx, 1, none⟩)), .l 61 (.pointer (some ⟨gx, 1, none⟩)) a4, .p a2, .p a2, .p (.pointer (some ⟨gx, 6, none⟩)), .l 32 (.pointer (some ⟨gx, 6, none⟩)) a5, .p a2, .p a2, .p (.pointer (some ⟨gx, 6, none⟩)), .l 32 (.pointer (some ⟨gx, 6, none⟩)) a5, .p (.pointer none), .p (.pointer none), .p (.pointer none), .p (.pointer none), .p (.pointer none), .p (.pointer none)] [(0, a1), (2, .pointer none), (3, .pointer none), (13, .string e.key), (17, a4), (21, a5), (25, a5), (26, .pointer none), (27, .pointer none), (28, .pointer none), (31, .pointer none), (34, .pointer none), (36, .pointer none)] (hx.ext st3.ext hnx) (fun _ hS => ⟨ld1b (hS) nagg_9 rfl, ldNb (hS) agg_61 rfl rfl, ldNb (hS) agg_32 rfl rfl, ldNb (hS) agg_32 rfl rfl, trivial⟩) ?_
      refine RS_e rfl rfl (ef_call (k := 116) (args := [.pointer none]) (many_cr (hl'.to st3.ext hno)) body_116 (by kernel_rfl)) ?_
      rintro _ _ ⟨_, rfl, rfl, rfl⟩
      refine ⟨hx.ext st3.ext hnx, ?_⟩
      refine RS_sg 1 [.p (.int .i64 (IntKind.i64.wrap (((T.nil.size : Nat) : Int) + 1)))] [(0, a1), (2, .pointer none), (3, .pointer none), (13, .string e.key), (17, a4), (21, a5), (25, a5), (26, .pointer none), (27, .pointer none), (30, .int .i64 (IntKind.i64.wrap (((T.nil.size : Nat) : Int) + 1))), (31, .pointer none), (34, .pointer none), (36, .pointer none)] (hx.ext st3.ext hnx) (fun _ hS => trivial) ?_
      refine RS_e rfl rfl (ef_call (k := 116) (args := [.pointer none]) (many_cr (hr'.to st3.ext hno)) body_116 (by kernel_rfl)) ?_
      rintro _ _ ⟨_, rfl, rfl, rfl⟩
      refine ⟨hx.ext st3.ext hnx, ?_⟩
      refine RS_sg 1 [.p (.int .i64 (IntKind.i64.wrap ((IntKind.i64.wrap (((T.nil.size : Nat) : Int) + 1)) + ((T.nil.size : Nat) : Int))))] [(0, a1), (2, .pointer none), (3, .pointer none), (13, .string e.key), (17, a4), (21, a5), (25, a5), (26, .pointer none), (27, .pointer none), (33, .int .i64 (IntKind.i64.wrap ((IntKind.i64.wrap (((T.nil.size : Nat) : Int) + 1)) + ((T.nil.size : Nat) : Int)))), (34, .pointer none), (36, .pointer none)] (hx.ext st3.ext hnx) (fun _ hS => trivial) ?_
      refine RS_e rfl rfl (ef_call (k := 155) (args := [.pointer none]) (high_cr (hl'.to st3.ext hno)) body_155 (by kernel_rfl)) ?_
      rintro _ _ ⟨_, rfl, rfl, rfl⟩
      refine ⟨hx.ext st3.ext hnx, ?_⟩
      refine RS_e rfl rfl (ef_call (k := 155) (args := [.pointer none]) (high_cr (hr'.to st3.ext hno)) body_155 (by kernel_rfl)) ?_
      rintro _ _ ⟨_, rfl, rfl, rfl⟩
      refine ⟨hx.ext st3.ext hnx, ?_⟩
      let a18 : Value := .agg #[.string e.key, .string e.key, .int .i64 e.c, .int .i64 e.n, .string e.val, .bool e.dead, .int .i64 e.tal.k, .int .u64 e.tal.a, .int .u64 e.tal.b, .int .i64 e.tal.k, .int .u64 e.tal.a, .int .u64 e.tal.b, .pointer none, .pointer none, .int .i64 (IntKind.i64.wrap ((IntKind.i64.wrap (((T.nil.size : Nat) : Int) + 1)) + ((T.nil.size : Nat) : Int))), .int .i64 (IntKind.i64.wrap (1 + (if ((T.nil.high : Nat) : Int) > ((T.nil.high : Nat) : Int) then ((T.nil.high : Nat) : Int) else ((T.nil.high : Nat) : Int))))]
      refine RS_sg 3 [.p (.int .i64 (if ((T.nil.high : Nat) : Int) > ((T.nil.high : Nat) : Int) then ((T.nil.high : Nat) : Int) else ((T.nil.high : Nat) : Int))), .p (.int .i64 (IntKind.i64.wrap (1 + (if ((T.nil.high : Nat) : Int) > ((T.nil.high : Nat) : Int) then ((T.nil.high : Nat) : Int) else ((T.nil.high : Nat) : Int))))), .p a18] [(0, a1), (2, .pointer none), (3, .pointer none), (40, a18)] (hx.ext st3.ext hnx) (fun _ hS => trivial) ?_
      refine RS_e rfl rfl (ef_box st3 rfl rfl) ?_
      rintro _ w19 ⟨gn, rfl, hgn, hgn', st20, hx21⟩
      replace st20 : St [bm] w w19 [(gn, 181, [.string e.key, .string e.key, .int .i64 e.c, .int .i64 e.n, .string e.val, .bool e.dead, .int .i64 e.tal.k, .int .u64 e.tal.a, .int .u64 e.tal.b, .int .i64 e.tal.k, .int .u64 e.tal.a, .int .u64 e.tal.b, .pointer none, .pointer none, .int .i64 (IntKind.i64.wrap ((IntKind.i64.wrap (((T.nil.size : Nat) : Int) + 1)) + ((T.nil.size : Nat) : Int))), .int .i64 (IntKind.i64.wrap (1 + (if ((T.nil.high : Nat) : Int) > ((T.nil.high : Nat) : Int) then ((T.nil.high : Nat) : Int) else ((T.nil.high : Nat) : Int))))]), (bm, 205, [.int .i64 j])] := st20
      refine ⟨hx.ext st20.ext hnx, ?_⟩
      let a22 : Value := .pointer (some ⟨gn, 0, none⟩)
      refine RS_sgP 1 [.p a22] [(0, a1), (2, .pointer none), (3, .pointer none), (9, a22)] (fun _ => trivial) ?_
      refine RS_nil <| n_then <| W_seq <| W_seq <| W_region <| RP_sg 2 [.p (.pointer none), .p (.bool false)] [(0, a1), (2, .pointer none), (3, .pointer none), (9, a22), (43, .bool false)] trivial ?_
      refine RP_nil <| n_then <| W_false rfl ?_
      refine W_skip <| n_then <| W_seq <| W_seq <| W_region <| RP_sg 2 [.p (.pointer none), .p (.bool false)] [(0, a1), (3, .pointer none), (9, a22), (61, .bool false)] trivial ?_
      refine RP_nil <| n_then <| W_false rfl ?_
      refine W_skip <| n_then <| W_seq <| W_region <| RP_sg 2 [.p a22, .p a22] [(8, a22)] trivial ?_
      refine RP_nil <| n_then <| W_ret <| ret_of (P := Tryd.prog) (fn := Tryd.f147) (m := [(8, .pointer (some ⟨gn, 0, none⟩))]) (w := w19) (res1 rfl (rv_tmp rfl)) ?_
      exact ⟨gn, rfl, hgn, ⟨gn, _, _, rfl, by rw [T.size, T.high, ← wsz, ← whi]; exact st20.get 0 rfl, hl'.to st20.ext hno, hr'.to st20.ext hno⟩, ⟨htb.ext st20.ext hnt, st20.get 1 rfl⟩, st20.ext⟩
    | node re rl rr =>
      obtain ⟨gr, prl, prr, rfl, hbr, -, -⟩ := hr
      have hnr : gr ∉ [bm] := by simpa using (hbr.ne_ hT.m (by decide))
      refine CR_enter Tryd.func147 rfl Tryd.ntmps147 rfl ?_
      refine W_seq <| W_region ?_
      let a1 : Value := .pointer (some ⟨bt, 0, none⟩)
      let a2 : Value := .pointer (some ⟨gx, 0, none⟩)
      let a3 : Value := .pointer (some ⟨gr, 0, none⟩)
      refine RP_sg 1 [.p (.pointer none)] [(0, a1), (1, a2), (2, .pointer none), (3, a3)] trivial ?_
      refine RP_nil <| n_then <| W_seq <| W_regionS ⟨(fun w' => Blk w' gx 181 [.string e.key, .string e.key, .int .i64 e.c, .int .i64 e.n, .string e.val, .bool e.dead, .int .i64 e.tal.k, .int .u64 e.tal.a, .int .u64 e.tal.b, .int .i64 s.k, .int .u64 s.a, .int .u64 s.b, .pointer ql, .pointer qr, .int .i64 m0, .int .i64 h0].toArray), (fun _ => True)⟩ (.cons 1 0 (.cons 1 1 (.cons 1 2 (.cons 1 3 (.cons 1 4 (.cons 1 5 (.cons 1 6 (.cons 1 7 (.cons 1 8 (.cons 1 9 (.cons 1 10 (.cons 1 11 (.cons 1 12 (.cons 1 13 (.cons 1 14 (.cons 1 15 (.cons 1 16 (.cons 1 17 (.cons 1 18 (.cons 1 21 (.cons 1 24 (.cons 1 26 (.cons 2 19 (.cons 1 20 (.cons 2 22 (.cons 1 23 (.cons 2 25 (.cons 2 27 (.cons 1 28 (.cons 1 29 (.cons 1 30 (.cons 2 31 (.cons 0 32 .nil))))))))))))))))))))))))))))))))) 33 (by kernel_rfl) (by kernel_rfl) ?_
      have st4 := st.drew
      let a5 : Value := .agg #[.string e.key, .int .i64 e.c, .int .i64 e.n, .string e.val, .bool e.dead]
      let a6 : Value := .agg #[.int .i64 e.tal.k, .int .u64 e.tal.a, .int .u64 e.tal.b]
      refine RS_sg 22 [.p a2, .p a2, .p a2, .l 9 a2 (.string e.key), .p a2, .p a2, .p (.pointer (some ⟨gx, 1, none⟩)), .l 61 (.pointer (some ⟨gx, 1, none⟩)) a5, .p a2, .p a2, .p (.pointer (some ⟨gx, 6, none⟩)), .l 32 (.pointer (some ⟨gx, 6, none⟩)) a6, .p a2, .p a2, .p (.pointer (some ⟨gx, 6, none⟩)), .l 32 (.pointer (some ⟨gx, 6, none⟩)) a6, .p (.pointer none), .p a3, .p (.pointer none), .p a3, .p (.pointer none), .p a3] [(0, a1), (2, .pointer none), (3, a3), (13, .string e.key), (17, a5), (21, a6), (25, a6), (26, .pointer none), (27, a3), (28, .pointer none), (31, a3), (34, .pointer none), (36, a3)] (hx.ext st4.ext hnx) (fun _ hS => ⟨ld1b (hS) nagg_9 rfl, ldNb (hS) agg_61 rfl rfl, ldNb (hS) agg_32 rfl rfl, ldNb (hS) agg_32 rfl rfl, trivial⟩) ?_
      refine RS_e rfl rfl (ef_call (k := 116) (args := [.pointer none]) (many_cr (hl'.to st4.ext hno)) body_116 (by kernel_rfl)) ?_
      rintro _ _ ⟨_, rfl, rfl, rfl⟩
      refine ⟨hx.ext st4.ext hnx, ?_⟩
      refine RS_sg 1 [.p (.int .i64 (IntKind.i64.wrap (((T.nil.size : Nat) : Int) + 1)))] [(0, a1), (2, .pointer none), (3, a3), (13, .string e.key), (17, a5), (21, a6), (25, a6), (26, .pointer none), (27, a3), (30, .int .i64 (IntKind.i64.wrap (((T.nil.size : Nat) : Int) + 1))), (31, a3), (34, .pointer none), (36, a3)] (hx.ext st4.ext hnx) (fun _ hS => trivial) ?_
      refine RS_e rfl rfl (ef_call (k := 116) (args := [a3]) (many_cr (hr'.to st4.ext hno)) body_116 (by kernel_rfl)) ?_
      rintro _ _ ⟨_, rfl, rfl, rfl⟩
      refine ⟨hx.ext st4.ext hnx, ?_⟩
      refine RS_sg 1 [.p (.int .i64 (IntKind.i64.wrap ((IntKind.i64.wrap (((T.nil.size : Nat) : Int) + 1)) + (((T.node re rl rr).size : Nat) : Int))))] [(0, a1), (2, .pointer none), (3, a3), (13, .string e.key), (17, a5), (21, a6), (25, a6), (26, .pointer none), (27, a3), (33, .int .i64 (IntKind.i64.wrap ((IntKind.i64.wrap (((T.nil.size : Nat) : Int) + 1)) + (((T.node re rl rr).size : Nat) : Int)))), (34, .pointer none), (36, a3)] (hx.ext st4.ext hnx) (fun _ hS => trivial) ?_
      refine RS_e rfl rfl (ef_call (k := 155) (args := [.pointer none]) (high_cr (hl'.to st4.ext hno)) body_155 (by kernel_rfl)) ?_
      rintro _ _ ⟨_, rfl, rfl, rfl⟩
      refine ⟨hx.ext st4.ext hnx, ?_⟩
      refine RS_e rfl rfl (ef_call (k := 155) (args := [a3]) (high_cr (hr'.to st4.ext hno)) body_155 (by kernel_rfl)) ?_
      rintro _ _ ⟨_, rfl, rfl, rfl⟩
      refine ⟨hx.ext st4.ext hnx, ?_⟩
      let a19 : Value := .agg #[.string e.key, .string e.key, .int .i64 e.c, .int .i64 e.n, .string e.val, .bool e.dead, .int .i64 e.tal.k, .int .u64 e.tal.a, .int .u64 e.tal.b, .int .i64 e.tal.k, .int .u64 e.tal.a, .int .u64 e.tal.b, .pointer none, a3, .int .i64 (IntKind.i64.wrap ((IntKind.i64.wrap (((T.nil.size : Nat) : Int) + 1)) + (((T.node re rl rr).size : Nat) : Int))), .int .i64 (IntKind.i64.wrap (1 + (if (((T.node re rl rr).high : Nat) : Int) > ((T.nil.high : Nat) : Int) then (((T.node re rl rr).high : Nat) : Int) else ((T.nil.high : Nat) : Int))))]
      refine RS_sg 3 [.p (.int .i64 (if (((T.node re rl rr).high : Nat) : Int) > ((T.nil.high : Nat) : Int) then (((T.node re rl rr).high : Nat) : Int) else ((T.nil.high : Nat) : Int))), .p (.int .i64 (IntKind.i64.wrap (1 + (if (((T.node re rl rr).high : Nat) : Int) > ((T.nil.high : Nat) : Int) then (((T.node re rl rr).high : Nat) : Int) else ((T.nil.high : Nat) : Int))))), .p a19] [(0, a1), (2, .pointer none), (3, a3), (40, a19)] (hx.ext st4.ext hnx) (fun _ hS => trivial) ?_
      refine RS_e rfl rfl (ef_box st4 rfl rfl) ?_
      rintro _ w20 ⟨gn, rfl, hgn, hgn', st21, hx22⟩
      replace st21 : St [bm] w w20 [(gn, 181, [.string e.key, .string e.key, .int .i64 e.c, .int .i64 e.n, .string e.val, .bool e.dead, .int .i64 e.tal.k, .int .u64 e.tal.a, .int .u64 e.tal.b, .int .i64 e.tal.k, .int .u64 e.tal.a, .int .u64 e.tal.b, .pointer none, .pointer (some ⟨gr, 0, none⟩), .int .i64 (IntKind.i64.wrap ((IntKind.i64.wrap (((T.nil.size : Nat) : Int) + 1)) + (((T.node re rl rr).size : Nat) : Int))), .int .i64 (IntKind.i64.wrap (1 + (if (((T.node re rl rr).high : Nat) : Int) > ((T.nil.high : Nat) : Int) then (((T.node re rl rr).high : Nat) : Int) else ((T.nil.high : Nat) : Int))))]), (bm, 205, [.int .i64 j])] := st21
      refine ⟨hx.ext st21.ext hnx, ?_⟩
      let a23 : Value := .pointer (some ⟨gn, 0, none⟩)
      refine RS_sgP 1 [.p a23] [(0, a1), (2, .pointer none), (3, a3), (9, a23)] (fun _ => trivial) ?_
      refine RS_nil <| n_then <| W_seq <| W_seq <| W_region <| RP_sg 2 [.p (.pointer none), .p (.bool false)] [(0, a1), (2, .pointer none), (3, a3), (9, a23), (43, .bool false)] trivial ?_
      refine RP_nil <| n_then <| W_false rfl ?_
      refine W_skip <| n_then <| W_seq <| W_seq <| W_region <| RP_sg 2 [.p a3, .p (.bool true)] [(0, a1), (3, a3), (9, a23), (61, .bool true)] trivial ?_
      refine RP_nil <| n_then <| W_true rfl ?_
      refine W_regionS ⟨(fun w' => Blk w' gn 181 [.string e.key, .string e.key, .int .i64 e.c, .int .i64 e.n, .string e.val, .bool e.dead, .int .i64 e.tal.k, .int .u64 e.tal.a, .int .u64 e.tal.b, .int .i64 e.tal.k, .int .u64 e.tal.a, .int .u64 e.tal.b, .pointer none, a3, .int .i64 (IntKind.i64.wrap ((IntKind.i64.wrap (((T.nil.size : Nat) : Int) + 1)) + (((T.node re rl rr).size : Nat) : Int))), .int .i64 (IntKind.i64.wrap (1 + (if (((T.node re rl rr).high : Nat) : Int) > ((T.nil.high : Nat) : Int) then (((T.node re rl rr).high : Nat) : Int) else ((T.nil.high : Nat) : Int))))].toArray ∧ Blk w' bt 179 [.int .i64 0, .int .u64 0, .int .u64 0, .func (.func 101) #[.pointer (some ⟨bm, 0, none⟩)] #[], .pointer p].toArray ∧ Blk w' gr 181 [.string re.key, .string re.key, .int .i64 re.c, .int .i64 re.n, .string re.val, .bool re.dead, .int .i64 re.tal.k, .int .u64 re.tal.a, .int .u64 re.tal.b, .int .i64 ((T.node re rl rr).sum.k), .int .u64 ((T.node re rl rr).sum.a), .int .u64 ((T.node re rl rr).sum.b), .pointer prl, .pointer prr, .int .i64 (((T.node re rl rr).size : Nat) : Int), .int .i64 (((T.node re rl rr).high : Nat) : Int)].toArray), (fun _ => True)⟩ (.cons 1 0 (.cons 1 1 (.cons 1 2 (.cons 1 3 (.cons 1 4 (.cons 1 5 (.cons 1 6 (.cons 1 7 (.cons 1 8 (.cons 1 9 (.cons 1 10 (.cons 1 11 (.cons 1 12 (.cons 2 13 (.cons 0 14 (.cons 0 15 (.cons 3 16 .nil))))))))))))))))) 17 (by kernel_rfl) (by kernel_rfl) ?_
      have st24 := st21.drew
      let a25 : Value := .func (.func 101) #[.pointer (some ⟨bm, 0, none⟩)] #[]
      let a26 : Value := .agg #[.int .i64 ((T.node re rl rr).sum.k), .int .u64 ((T.node re rl rr).sum.a), .int .u64 ((T.node re rl rr).sum.b)]
      refine RS_sg 13 [.p a23, .p a1, .p a1, .p (.pointer (some ⟨bt, 3, none⟩)), .l 80 (.pointer (some ⟨bt, 3, none⟩)) a25, .p a23, .p a23, .p (.pointer (some ⟨gn, 9, none⟩)), .l 32 (.pointer (some ⟨gn, 9, none⟩)) a6, .p a3, .p a3, .p (.pointer (some ⟨gr, 9, none⟩)), .l 32 (.pointer (some ⟨gr, 9, none⟩)) a26] [(9, a23), (62, a23), (66, a25), (70, a6), (74, a26)] (⟨st24.get 0 rfl, htb.ext st24.ext hnt, hbr.ext st24.ext hnr⟩) (fun _ hS => ⟨ld1b (hS.2.1) nagg_80 rfl, ldNb (hS.1) agg_32 rfl rfl, ldNb (hS.2.2) agg_32 rfl rfl, trivial⟩) ?_
      refine RS_e rfl rfl (ef_call (k := 101) (args := [.pointer (some ⟨bm, 0, none⟩), a6, a26]) (meter_join e.tal (T.node re rl rr).sum bm (j) _ (st24.get 1 rfl)) body_101 (by kernel_rfl)) ?_
      rintro _ w27 ⟨_, rfl, rfl, hbj, hx29⟩
      have st28 := st24.turned 1 rfl (.inl (by simp)) hbj hx29
      have st30 : St [bm] w w27 [(gn, 181, [.string e.key, .string e.key, .int .i64 e.c, .int .i64 e.n, .string e.val, .bool e.dead, .int .i64 e.tal.k, .int .u64 e.tal.a, .int .u64 e.tal.b, .int .i64 e.tal.k, .int .u64 e.tal.a, .int .u64 e.tal.b, .pointer none, .pointer (some ⟨gr, 0, none⟩), .int .i64 (IntKind.i64.wrap ((IntKind.i64.wrap (((T.nil.size : Nat) : Int) + 1)) + (((T.node re rl rr).size : Nat) : Int))), .int .i64 (IntKind.i64.wrap (1 + (if (((T.node re rl rr).high : Nat) : Int) > ((T.nil.high : Nat) : Int) then (((T.node re rl rr).high : Nat) : Int) else ((T.nil.high : Nat) : Int))))]), (bm, 205, [.int .i64 (IntKind.i64.wrap (j + 1))])] := st28
      refine ⟨⟨st30.get 0 rfl, htb.ext st30.ext hnt, hbr.ext st30.ext hnr⟩, ?_⟩
      let a31 : Value := .agg #[.int .i64 ((e.tal.join (T.node re rl rr).sum).k), .int .u64 ((e.tal.join (T.node re rl rr).sum).a), .int .u64 ((e.tal.join (T.node re rl rr).sum).b)]
      let a32 : Value := .pointer (some ⟨gn, 9, none⟩)
      refine RS_sgP 2 [.p a23, .p a32] [(9, a23), (75, a31), (77, a32)] (fun _ => trivial) ?_
      refine RS_f rfl rfl (ef_store st30 rfl rfl rfl size_32 0 rfl rfl rfl rfl (.inr hgn)) ?_
      rintro _ w33 ⟨rfl, st34, hx35⟩
      replace st34 : St [bm] w w33 [(gn, 181, [.string e.key, .string e.key, .int .i64 e.c, .int .i64 e.n, .string e.val, .bool e.dead, .int .i64 e.tal.k, .int .u64 e.tal.a, .int .u64 e.tal.b, .int .i64 ((e.tal.join (T.node re rl rr).sum).k), .int .u64 ((e.tal.join (T.node re rl rr).sum).a), .int .u64 ((e.tal.join (T.node re rl rr).sum).b), .pointer none, .pointer (some ⟨gr, 0, none⟩), .int .i64 (IntKind.i64.wrap ((IntKind.i64.wrap (((T.nil.size : Nat) : Int) + 1)) + (((T.node re rl rr).size : Nat) : Int))), .int .i64 (IntKind.i64.wrap (1 + (if (((T.node re rl rr).high : Nat) : Int) > ((T.nil.high : Nat) : Int) then (((T.node re rl rr).high : Nat) : Int) else ((T.nil.high : Nat) : Int))))]), (bm, 205, [.int .i64 (IntKind.i64.wrap (j + 1))])] := st34
      refine RS_pk [(9, a23)] ?_
      refine RS_nil <| n_then <| W_seq <| W_region <| RP_sg 2 [.p a23, .p a23] [(8, a23)] trivial ?_
      refine RP_nil <| n_then <| W_ret <| ret_of (P := Tryd.prog) (fn := Tryd.f147) (m := [(8, .pointer (some ⟨gn, 0, none⟩))]) (w := w33) (res1 rfl (rv_tmp rfl)) ?_
      exact ⟨gn, rfl, hgn, ⟨gn, _, _, rfl, by rw [T.size, T.high, ← wsz, ← whi]; exact st34.get 0 rfl, hl'.to st34.ext hno, hr'.to st34.ext hno⟩, ⟨htb.ext st34.ext hnt, st34.get 1 rfl⟩, st34.ext⟩
  | node le ll lr =>
    obtain ⟨gl, pll, plr, rfl, hbl, -, -⟩ := hl
    have hnl : gl ∉ [bm] := by simpa using (hbl.ne_ hT.m (by decide))
    cases r with
    | nil =>
      obtain rfl : pr = none := hr
      refine CR_enter Tryd.func147 rfl Tryd.ntmps147 rfl ?_
      refine W_seq <| W_region ?_
      let a1 : Value := .pointer (some ⟨bt, 0, none⟩)
      let a2 : Value := .pointer (some ⟨gx, 0, none⟩)
      let a3 : Value := .pointer (some ⟨gl, 0, none⟩)
      refine RP_sg 1 [.p (.pointer none)] [(0, a1), (1, a2), (2, a3), (3, .pointer none)] trivial ?_
      refine RP_nil <| n_then <| W_seq <| W_regionS ⟨(fun w' => Blk w' gx 181 [.string e.key, .string e.key, .int .i64 e.c, .int .i64 e.n, .string e.val, .bool e.dead, .int .i64 e.tal.k, .int .u64 e.tal.a, .int .u64 e.tal.b, .int .i64 s.k, .int .u64 s.a, .int .u64 s.b, .pointer ql, .pointer qr, .int .i64 m0, .int .i64 h0].toArray), (fun _ => True)⟩ (.cons 1 0 (.cons 1 1 (.cons 1 2 (.cons 1 3 (.cons 1 4 (.cons 1 5 (.cons 1 6 (.cons 1 7 (.cons 1 8 (.cons 1 9 (.cons 1 10 (.cons 1 11 (.cons 1 12 (.cons 1 13 (.cons 1 14 (.cons 1 15 (.cons 1 16 (.cons 1 17 (.cons 1 18 (.cons 1 21 (.cons 1 24 (.cons 1 26 (.cons 2 19 (.cons 1 20 (.cons 2 22 (.cons 1 23 (.cons 2 25 (.cons 2 27 (.cons 1 28 (.cons 1 29 (.cons 1 30 (.cons 2 31 (.cons 0 32 .nil))))))))))))))))))))))))))))))))) 33 (by kernel_rfl) (by kernel_rfl) ?_
      have st4 := st.drew
      let a5 : Value := .agg #[.string e.key, .int .i64 e.c, .int .i64 e.n, .string e.val, .bool e.dead]
      let a6 : Value := .agg #[.int .i64 e.tal.k, .int .u64 e.tal.a, .int .u64 e.tal.b]
      refine RS_sg 22 [.p a2, .p a2, .p a2, .l 9 a2 (.string e.key), .p a2, .p a2, .p (.pointer (some ⟨gx, 1, none⟩)), .l 61 (.pointer (some ⟨gx, 1, none⟩)) a5, .p a2, .p a2, .p (.pointer (some ⟨gx, 6, none⟩)), .l 32 (.pointer (some ⟨gx, 6, none⟩)) a6, .p a2, .p a2, .p (.pointer (some ⟨gx, 6, none⟩)), .l 32 (.pointer (some ⟨gx, 6, none⟩)) a6, .p a3, .p (.pointer none), .p a3, .p (.pointer none), .p a3, .p (.pointer none)] [(0, a1), (2, a3), (3, .pointer none), (13, .string e.key), (17, a5), (21, a6), (25, a6), (26, a3), (27, .pointer none), (28, a3), (31, .pointer none), (34, a3), (36, .pointer none)] (hx.ext st4.ext hnx) (fun _ hS => ⟨ld1b (hS) nagg_9 rfl, ldNb (hS) agg_61 rfl rfl, ldNb (hS) agg_32 rfl rfl, ldNb (hS) agg_32 rfl rfl, trivial⟩) ?_
      refine RS_e rfl rfl (ef_call (k := 116) (args := [a3]) (many_cr (hl'.to st4.ext hno)) body_116 (by kernel_rfl)) ?_
      rintro _ _ ⟨_, rfl, rfl, rfl⟩
      refine ⟨hx.ext st4.ext hnx, ?_⟩
      refine RS_sg 1 [.p (.int .i64 (IntKind.i64.wrap ((((T.node le ll lr).size : Nat) : Int) + 1)))] [(0, a1), (2, a3), (3, .pointer none), (13, .string e.key), (17, a5), (21, a6), (25, a6), (26, a3), (27, .pointer none), (30, .int .i64 (IntKind.i64.wrap ((((T.node le ll lr).size : Nat) : Int) + 1))), (31, .pointer none), (34, a3), (36, .pointer none)] (hx.ext st4.ext hnx) (fun _ hS => trivial) ?_
      refine RS_e rfl rfl (ef_call (k := 116) (args := [.pointer none]) (many_cr (hr'.to st4.ext hno)) body_116 (by kernel_rfl)) ?_
      rintro _ _ ⟨_, rfl, rfl, rfl⟩
      refine ⟨hx.ext st4.ext hnx, ?_⟩
      refine RS_sg 1 [.p (.int .i64 (IntKind.i64.wrap ((IntKind.i64.wrap ((((T.node le ll lr).size : Nat) : Int) + 1)) + ((T.nil.size : Nat) : Int))))] [(0, a1), (2, a3), (3, .pointer none), (13, .string e.key), (17, a5), (21, a6), (25, a6), (26, a3), (27, .pointer none), (33, .int .i64 (IntKind.i64.wrap ((IntKind.i64.wrap ((((T.node le ll lr).size : Nat) : Int) + 1)) + ((T.nil.size : Nat) : Int)))), (34, a3), (36, .pointer none)] (hx.ext st4.ext hnx) (fun _ hS => trivial) ?_
      refine RS_e rfl rfl (ef_call (k := 155) (args := [a3]) (high_cr (hl'.to st4.ext hno)) body_155 (by kernel_rfl)) ?_
      rintro _ _ ⟨_, rfl, rfl, rfl⟩
      refine ⟨hx.ext st4.ext hnx, ?_⟩
      refine RS_e rfl rfl (ef_call (k := 155) (args := [.pointer none]) (high_cr (hr'.to st4.ext hno)) body_155 (by kernel_rfl)) ?_
      rintro _ _ ⟨_, rfl, rfl, rfl⟩
      refine ⟨hx.ext st4.ext hnx, ?_⟩
      let a19 : Value := .agg #[.string e.key, .string e.key, .int .i64 e.c, .int .i64 e.n, .string e.val, .bool e.dead, .int .i64 e.tal.k, .int .u64 e.tal.a, .int .u64 e.tal.b, .int .i64 e.tal.k, .int .u64 e.tal.a, .int .u64 e.tal.b, a3, .pointer none, .int .i64 (IntKind.i64.wrap ((IntKind.i64.wrap ((((T.node le ll lr).size : Nat) : Int) + 1)) + ((T.nil.size : Nat) : Int))), .int .i64 (IntKind.i64.wrap (1 + (if ((T.nil.high : Nat) : Int) > (((T.node le ll lr).high : Nat) : Int) then ((T.nil.high : Nat) : Int) else (((T.node le ll lr).high : Nat) : Int))))]
      refine RS_sg 3 [.p (.int .i64 (if ((T.nil.high : Nat) : Int) > (((T.node le ll lr).high : Nat) : Int) then ((T.nil.high : Nat) : Int) else (((T.node le ll lr).high : Nat) : Int))), .p (.int .i64 (IntKind.i64.wrap (1 + (if ((T.nil.high : Nat) : Int) > (((T.node le ll lr).high : Nat) : Int) then ((T.nil.high : Nat) : Int) else (((T.node le ll lr).high : Nat) : Int))))), .p a19] [(0, a1), (2, a3), (3, .pointer none), (40, a19)] (hx.ext st4.ext hnx) (fun _ hS => trivial) ?_
      refine RS_e rfl rfl (ef_box st4 rfl rfl) ?_
      rintro _ w20 ⟨gn, rfl, hgn, hgn', st21, hx22⟩
      replace st21 : St [bm] w w20 [(gn, 181, [.string e.key, .string e.key, .int .i64 e.c, .int .i64 e.n, .string e.val, .bool e.dead, .int .i64 e.tal.k, .int .u64 e.tal.a, .int .u64 e.tal.b, .int .i64 e.tal.k, .int .u64 e.tal.a, .int .u64 e.tal.b, .pointer (some ⟨gl, 0, none⟩), .pointer none, .int .i64 (IntKind.i64.wrap ((IntKind.i64.wrap ((((T.node le ll lr).size : Nat) : Int) + 1)) + ((T.nil.size : Nat) : Int))), .int .i64 (IntKind.i64.wrap (1 + (if ((T.nil.high : Nat) : Int) > (((T.node le ll lr).high : Nat) : Int) then ((T.nil.high : Nat) : Int) else (((T.node le ll lr).high : Nat) : Int))))]), (bm, 205, [.int .i64 j])] := st21
      refine ⟨hx.ext st21.ext hnx, ?_⟩
      let a23 : Value := .pointer (some ⟨gn, 0, none⟩)
      refine RS_sgP 1 [.p a23] [(0, a1), (2, a3), (3, .pointer none), (9, a23)] (fun _ => trivial) ?_
      refine RS_nil <| n_then <| W_seq <| W_seq <| W_region <| RP_sg 2 [.p a3, .p (.bool true)] [(0, a1), (2, a3), (3, .pointer none), (9, a23), (43, .bool true)] trivial ?_
      refine RP_nil <| n_then <| W_true rfl ?_
      refine W_regionS ⟨(fun w' => Blk w' gn 181 [.string e.key, .string e.key, .int .i64 e.c, .int .i64 e.n, .string e.val, .bool e.dead, .int .i64 e.tal.k, .int .u64 e.tal.a, .int .u64 e.tal.b, .int .i64 e.tal.k, .int .u64 e.tal.a, .int .u64 e.tal.b, a3, .pointer none, .int .i64 (IntKind.i64.wrap ((IntKind.i64.wrap ((((T.node le ll lr).size : Nat) : Int) + 1)) + ((T.nil.size : Nat) : Int))), .int .i64 (IntKind.i64.wrap (1 + (if ((T.nil.high : Nat) : Int) > (((T.node le ll lr).high : Nat) : Int) then ((T.nil.high : Nat) : Int) else (((T.node le ll lr).high : Nat) : Int))))].toArray ∧ Blk w' bt 179 [.int .i64 0, .int .u64 0, .int .u64 0, .func (.func 101) #[.pointer (some ⟨bm, 0, none⟩)] #[], .pointer p].toArray ∧ Blk w' gl 181 [.string le.key, .string le.key, .int .i64 le.c, .int .i64 le.n, .string le.val, .bool le.dead, .int .i64 le.tal.k, .int .u64 le.tal.a, .int .u64 le.tal.b, .int .i64 ((T.node le ll lr).sum.k), .int .u64 ((T.node le ll lr).sum.a), .int .u64 ((T.node le ll lr).sum.b), .pointer pll, .pointer plr, .int .i64 (((T.node le ll lr).size : Nat) : Int), .int .i64 (((T.node le ll lr).high : Nat) : Int)].toArray), (fun _ => True)⟩ (.cons 1 0 (.cons 1 1 (.cons 1 2 (.cons 1 3 (.cons 1 4 (.cons 1 5 (.cons 1 6 (.cons 1 7 (.cons 1 8 (.cons 1 9 (.cons 1 10 (.cons 1 11 (.cons 1 12 (.cons 2 13 (.cons 0 14 (.cons 0 15 (.cons 3 16 .nil))))))))))))))))) 17 (by kernel_rfl) (by kernel_rfl) ?_
      have st24 := st21.drew
      let a25 : Value := .func (.func 101) #[.pointer (some ⟨bm, 0, none⟩)] #[]
      let a26 : Value := .agg #[.int .i64 ((T.node le ll lr).sum.k), .int .u64 ((T.node le ll lr).sum.a), .int .u64 ((T.node le ll lr).sum.b)]
      refine RS_sg 13 [.p a23, .p a1, .p a1, .p (.pointer (some ⟨bt, 3, none⟩)), .l 80 (.pointer (some ⟨bt, 3, none⟩)) a25, .p a3, .p a3, .p (.pointer (some ⟨gl, 9, none⟩)), .l 32 (.pointer (some ⟨gl, 9, none⟩)) a26, .p a23, .p a23, .p (.pointer (some ⟨gn, 9, none⟩)), .l 32 (.pointer (some ⟨gn, 9, none⟩)) a6] [(0, a1), (3, .pointer none), (9, a23), (44, a23), (48, a25), (52, a26), (56, a6)] (⟨st24.get 0 rfl, htb.ext st24.ext hnt, hbl.ext st24.ext hnl⟩) (fun _ hS => ⟨ld1b (hS.2.1) nagg_80 rfl, ldNb (hS.2.2) agg_32 rfl rfl, ldNb (hS.1) agg_32 rfl rfl, trivial⟩) ?_
      refine RS_e rfl rfl (ef_call (k := 101) (args := [.pointer (some ⟨bm, 0, none⟩), a26, a6]) (meter_join (T.node le ll lr).sum e.tal bm (j) _ (st24.get 1 rfl)) body_101 (by kernel_rfl)) ?_
      rintro _ w27 ⟨_, rfl, rfl, hbj, hx29⟩
      have st28 := st24.turned 1 rfl (.inl (by simp)) hbj hx29
      have st30 : St [bm] w w27 [(gn, 181, [.string e.key, .string e.key, .int .i64 e.c, .int .i64 e.n, .string e.val, .bool e.dead, .int .i64 e.tal.k, .int .u64 e.tal.a, .int .u64 e.tal.b, .int .i64 e.tal.k, .int .u64 e.tal.a, .int .u64 e.tal.b, .pointer (some ⟨gl, 0, none⟩), .pointer none, .int .i64 (IntKind.i64.wrap ((IntKind.i64.wrap ((((T.node le ll lr).size : Nat) : Int) + 1)) + ((T.nil.size : Nat) : Int))), .int .i64 (IntKind.i64.wrap (1 + (if ((T.nil.high : Nat) : Int) > (((T.node le ll lr).high : Nat) : Int) then ((T.nil.high : Nat) : Int) else (((T.node le ll lr).high : Nat) : Int))))]), (bm, 205, [.int .i64 (IntKind.i64.wrap (j + 1))])] := st28
      refine ⟨⟨st30.get 0 rfl, htb.ext st30.ext hnt, hbl.ext st30.ext hnl⟩, ?_⟩
      let a31 : Value := .agg #[.int .i64 (((T.node le ll lr).sum.join e.tal).k), .int .u64 (((T.node le ll lr).sum.join e.tal).a), .int .u64 (((T.node le ll lr).sum.join e.tal).b)]
      let a32 : Value := .pointer (some ⟨gn, 9, none⟩)
      refine RS_sgP 2 [.p a23, .p a32] [(0, a1), (3, .pointer none), (9, a23), (57, a31), (59, a32)] (fun _ => trivial) ?_
      refine RS_f rfl rfl (ef_store st30 rfl rfl rfl size_32 0 rfl rfl rfl rfl (.inr hgn)) ?_
      rintro _ w33 ⟨rfl, st34, hx35⟩
      replace st34 : St [bm] w w33 [(gn, 181, [.string e.key, .string e.key, .int .i64 e.c, .int .i64 e.n, .string e.val, .bool e.dead, .int .i64 e.tal.k, .int .u64 e.tal.a, .int .u64 e.tal.b, .int .i64 (((T.node le ll lr).sum.join e.tal).k), .int .u64 (((T.node le ll lr).sum.join e.tal).a), .int .u64 (((T.node le ll lr).sum.join e.tal).b), .pointer (some ⟨gl, 0, none⟩), .pointer none, .int .i64 (IntKind.i64.wrap ((IntKind.i64.wrap ((((T.node le ll lr).size : Nat) : Int) + 1)) + ((T.nil.size : Nat) : Int))), .int .i64 (IntKind.i64.wrap (1 + (if ((T.nil.high : Nat) : Int) > (((T.node le ll lr).high : Nat) : Int) then ((T.nil.high : Nat) : Int) else (((T.node le ll lr).high : Nat) : Int))))]), (bm, 205, [.int .i64 (IntKind.i64.wrap (j + 1))])] := st34
      refine RS_pk [(0, a1), (3, .pointer none), (9, a23)] ?_
      refine RS_nil <| n_then <| W_seq <| W_seq <| W_region <| RP_sg 2 [.p (.pointer none), .p (.bool false)] [(0, a1), (3, .pointer none), (9, a23), (61, .bool false)] trivial ?_
      refine RP_nil <| n_then <| W_false rfl ?_
      refine W_skip <| n_then <| W_seq <| W_region <| RP_sg 2 [.p a23, .p a23] [(8, a23)] trivial ?_
      refine RP_nil <| n_then <| W_ret <| ret_of (P := Tryd.prog) (fn := Tryd.f147) (m := [(8, .pointer (some ⟨gn, 0, none⟩))]) (w := w33) (res1 rfl (rv_tmp rfl)) ?_
      exact ⟨gn, rfl, hgn, ⟨gn, _, _, rfl, by rw [T.size, T.high, ← wsz, ← whi]; exact st34.get 0 rfl, hl'.to st34.ext hno, hr'.to st34.ext hno⟩, ⟨htb.ext st34.ext hnt, st34.get 1 rfl⟩, st34.ext⟩
    | node re rl rr =>
      obtain ⟨gr, prl, prr, rfl, hbr, -, -⟩ := hr
      have hnr : gr ∉ [bm] := by simpa using (hbr.ne_ hT.m (by decide))
      refine CR_enter Tryd.func147 rfl Tryd.ntmps147 rfl ?_
      refine W_seq <| W_region ?_
      let a1 : Value := .pointer (some ⟨bt, 0, none⟩)
      let a2 : Value := .pointer (some ⟨gx, 0, none⟩)
      let a3 : Value := .pointer (some ⟨gl, 0, none⟩)
      let a4 : Value := .pointer (some ⟨gr, 0, none⟩)
      refine RP_sg 1 [.p (.pointer none)] [(0, a1), (1, a2), (2, a3), (3, a4)] trivial ?_
      refine RP_nil <| n_then <| W_seq <| W_regionS ⟨(fun w' => Blk w' gx 181 [.string e.key, .string e.key, .int .i64 e.c, .int .i64 e.n, .string e.val, .bool e.dead, .int .i64 e.tal.k, .int .u64 e.tal.a, .int .u64 e.tal.b, .int .i64 s.k, .int .u64 s.a, .int .u64 s.b, .pointer ql, .pointer qr, .int .i64 m0, .int .i64 h0].toArray), (fun _ => True)⟩ (.cons 1 0 (.cons 1 1 (.cons 1 2 (.cons 1 3 (.cons 1 4 (.cons 1 5 (.cons 1 6 (.cons 1 7 (.cons 1 8 (.cons 1 9 (.cons 1 10 (.cons 1 11 (.cons 1 12 (.cons 1 13 (.cons 1 14 (.cons 1 15 (.cons 1 16 (.cons 1 17 (.cons 1 18 (.cons 1 21 (.cons 1 24 (.cons 1 26 (.cons 2 19 (.cons 1 20 (.cons 2 22 (.cons 1 23 (.cons 2 25 (.cons 2 27 (.cons 1 28 (.cons 1 29 (.cons 1 30 (.cons 2 31 (.cons 0 32 .nil))))))))))))))))))))))))))))))))) 33 (by kernel_rfl) (by kernel_rfl) ?_
      have st5 := st.drew
      let a6 : Value := .agg #[.string e.key, .int .i64 e.c, .int .i64 e.n, .string e.val, .bool e.dead]
      let a7 : Value := .agg #[.int .i64 e.tal.k, .int .u64 e.tal.a, .int .u64 e.tal.b]
      refine RS_sg 22 [.p a2, .p a2, .p a2, .l 9 a2 (.string e.key), .p a2, .p a2, .p (.pointer (some ⟨gx, 1, none⟩)), .l 61 (.pointer (some ⟨gx, 1, none⟩)) a6, .p a2, .p a2, .p (.pointer (some ⟨gx, 6, none⟩)), .l 32 (.pointer (some ⟨gx, 6, none⟩)) a7, .p a2, .p a2, .p (.pointer (some ⟨gx, 6, none⟩)), .l 32 (.pointer (some ⟨gx, 6, none⟩)) a7, .p a3, .p a4, .p a3, .p a4, .p a3, .p a4] [(0, a1), (2, a3), (3, a4), (13, .string e.key), (17, a6), (21, a7), (25, a7), (26, a3), (27, a4), (28, a3), (31, a4), (34, a3), (36, a4)] (hx.ext st5.ext hnx) (fun _ hS => ⟨ld1b (hS) nagg_9 rfl, ldNb (hS) agg_61 rfl rfl, ldNb (hS) agg_32 rfl rfl, ldNb (hS) agg_32 rfl rfl, trivial⟩) ?_
      refine RS_e rfl rfl (ef_call (k := 116) (args := [a3]) (many_cr (hl'.to st5.ext hno)) body_116 (by kernel_rfl)) ?_
      rintro _ _ ⟨_, rfl, rfl, rfl⟩
      refine ⟨hx.ext st5.ext hnx, ?_⟩
      refine RS_sg 1 [.p (.int .i64 (IntKind.i64.wrap ((((T.node le ll lr).size : Nat) : Int) + 1)))] [(0, a1), (2, a3), (3, a4), (13, .string e.key), (17, a6), (21, a7), (25, a7), (26, a3), (27, a4), (30, .int .i64 (IntKind.i64.wrap ((((T.node le ll lr).size : Nat) : Int) + 1))), (31, a4), (34, a3), (36, a4)] (hx.ext st5.ext hnx) (fun _ hS => trivial) ?_
      refine RS_e rfl rfl (ef_call (k := 116) (args := [a4]) (many_cr (hr'.to st5.ext hno)) body_116 (by kernel_rfl)) ?_
      rintro _ _ ⟨_, rfl, rfl, rfl⟩
      refine ⟨hx.ext st5.ext hnx, ?_⟩
      refine RS_sg 1 [.p (.int .i64 (IntKind.i64.wrap ((IntKind.i64.wrap ((((T.node le ll lr).size : Nat) : Int) + 1)) + (((T.node re rl rr).size : Nat) : Int))))] [(0, a1), (2, a3), (3, a4), (13, .string e.key), (17, a6), (21, a7), (25, a7), (26, a3), (27, a4), (33, .int .i64 (IntKind.i64.wrap ((IntKind.i64.wrap ((((T.node le ll lr).size : Nat) : Int) + 1)) + (((T.node re rl rr).size : Nat) : Int)))), (34, a3), (36, a4)] (hx.ext st5.ext hnx) (fun _ hS => trivial) ?_
      refine RS_e rfl rfl (ef_call (k := 155) (args := [a3]) (high_cr (hl'.to st5.ext hno)) body_155 (by kernel_rfl)) ?_
      rintro _ _ ⟨_, rfl, rfl, rfl⟩
      refine ⟨hx.ext st5.ext hnx, ?_⟩
      refine RS_e rfl rfl (ef_call (k := 155) (args := [a4]) (high_cr (hr'.to st5.ext hno)) body_155 (by kernel_rfl)) ?_
      rintro _ _ ⟨_, rfl, rfl, rfl⟩
      refine ⟨hx.ext st5.ext hnx, ?_⟩
      let a20 : Value := .agg #[.string e.key, .string e.key, .int .i64 e.c, .int .i64 e.n, .string e.val, .bool e.dead, .int .i64 e.tal.k, .int .u64 e.tal.a, .int .u64 e.tal.b, .int .i64 e.tal.k, .int .u64 e.tal.a, .int .u64 e.tal.b, a3, a4, .int .i64 (IntKind.i64.wrap ((IntKind.i64.wrap ((((T.node le ll lr).size : Nat) : Int) + 1)) + (((T.node re rl rr).size : Nat) : Int))), .int .i64 (IntKind.i64.wrap (1 + (if (((T.node re rl rr).high : Nat) : Int) > (((T.node le ll lr).high : Nat) : Int) then (((T.node re rl rr).high : Nat) : Int) else (((T.node le ll lr).high : Nat) : Int))))]
      refine RS_sg 3 [.p (.int .i64 (if (((T.node re rl rr).high : Nat) : Int) > (((T.node le ll lr).high : Nat) : Int) then (((T.node re rl rr).high : Nat) : Int) else (((T.node le ll lr).high : Nat) : Int))), .p (.int .i64 (IntKind.i64.wrap (1 + (if (((T.node re rl rr).high : Nat) : Int) > (((T.node le ll lr).high : Nat) : Int) then (((T.node re rl rr).high : Nat) : Int) else (((T.node le ll lr).high : Nat) : Int))))), .p a20] [(0, a1), (2, a3), (3, a4), (40, a20)] (hx.ext st5.ext hnx) (fun _ hS => trivial) ?_
      refine RS_e rfl rfl (ef_box st5 rfl rfl) ?_
      rintro _ w21 ⟨gn, rfl, hgn, hgn', st22, hx23⟩
      replace st22 : St [bm] w w21 [(gn, 181, [.string e.key, .string e.key, .int .i64 e.c, .int .i64 e.n, .string e.val, .bool e.dead, .int .i64 e.tal.k, .int .u64 e.tal.a, .int .u64 e.tal.b, .int .i64 e.tal.k, .int .u64 e.tal.a, .int .u64 e.tal.b, .pointer (some ⟨gl, 0, none⟩), .pointer (some ⟨gr, 0, none⟩), .int .i64 (IntKind.i64.wrap ((IntKind.i64.wrap ((((T.node le ll lr).size : Nat) : Int) + 1)) + (((T.node re rl rr).size : Nat) : Int))), .int .i64 (IntKind.i64.wrap (1 + (if (((T.node re rl rr).high : Nat) : Int) > (((T.node le ll lr).high : Nat) : Int) then (((T.node re rl rr).high : Nat) : Int) else (((T.node le ll lr).high : Nat) : Int))))]), (bm, 205, [.int .i64 j])] := st22
      refine ⟨hx.ext st22.ext hnx, ?_⟩
      let a24 : Value := .pointer (some ⟨gn, 0, none⟩)
      refine RS_sgP 1 [.p a24] [(0, a1), (2, a3), (3, a4), (9, a24)] (fun _ => trivial) ?_
      refine RS_nil <| n_then <| W_seq <| W_seq <| W_region <| RP_sg 2 [.p a3, .p (.bool true)] [(0, a1), (2, a3), (3, a4), (9, a24), (43, .bool true)] trivial ?_
      refine RP_nil <| n_then <| W_true rfl ?_
      refine W_regionS ⟨(fun w' => Blk w' gn 181 [.string e.key, .string e.key, .int .i64 e.c, .int .i64 e.n, .string e.val, .bool e.dead, .int .i64 e.tal.k, .int .u64 e.tal.a, .int .u64 e.tal.b, .int .i64 e.tal.k, .int .u64 e.tal.a, .int .u64 e.tal.b, a3, a4, .int .i64 (IntKind.i64.wrap ((IntKind.i64.wrap ((((T.node le ll lr).size : Nat) : Int) + 1)) + (((T.node re rl rr).size : Nat) : Int))), .int .i64 (IntKind.i64.wrap (1 + (if (((T.node re rl rr).high : Nat) : Int) > (((T.node le ll lr).high : Nat) : Int) then (((T.node re rl rr).high : Nat) : Int) else (((T.node le ll lr).high : Nat) : Int))))].toArray ∧ Blk w' bt 179 [.int .i64 0, .int .u64 0, .int .u64 0, .func (.func 101) #[.pointer (some ⟨bm, 0, none⟩)] #[], .pointer p].toArray ∧ Blk w' gl 181 [.string le.key, .string le.key, .int .i64 le.c, .int .i64 le.n, .string le.val, .bool le.dead, .int .i64 le.tal.k, .int .u64 le.tal.a, .int .u64 le.tal.b, .int .i64 ((T.node le ll lr).sum.k), .int .u64 ((T.node le ll lr).sum.a), .int .u64 ((T.node le ll lr).sum.b), .pointer pll, .pointer plr, .int .i64 (((T.node le ll lr).size : Nat) : Int), .int .i64 (((T.node le ll lr).high : Nat) : Int)].toArray), (fun _ => True)⟩ (.cons 1 0 (.cons 1 1 (.cons 1 2 (.cons 1 3 (.cons 1 4 (.cons 1 5 (.cons 1 6 (.cons 1 7 (.cons 1 8 (.cons 1 9 (.cons 1 10 (.cons 1 11 (.cons 1 12 (.cons 2 13 (.cons 0 14 (.cons 0 15 (.cons 3 16 .nil))))))))))))))))) 17 (by kernel_rfl) (by kernel_rfl) ?_
      have st25 := st22.drew
      let a26 : Value := .func (.func 101) #[.pointer (some ⟨bm, 0, none⟩)] #[]
      let a27 : Value := .agg #[.int .i64 ((T.node le ll lr).sum.k), .int .u64 ((T.node le ll lr).sum.a), .int .u64 ((T.node le ll lr).sum.b)]
      refine RS_sg 13 [.p a24, .p a1, .p a1, .p (.pointer (some ⟨bt, 3, none⟩)), .l 80 (.pointer (some ⟨bt, 3, none⟩)) a26, .p a3, .p a3, .p (.pointer (some ⟨gl, 9, none⟩)), .l 32 (.pointer (some ⟨gl, 9, none⟩)) a27, .p a24, .p a24, .p (.pointer (some ⟨gn, 9, none⟩)), .l 32 (.pointer (some ⟨gn, 9, none⟩)) a7] [(0, a1), (3, a4), (9, a24), (44, a24), (48, a26), (52, a27), (56, a7)] (⟨st25.get 0 rfl, htb.ext st25.ext hnt, hbl.ext st25.ext hnl⟩) (fun _ hS => ⟨ld1b (hS.2.1) nagg_80 rfl, ldNb (hS.2.2) agg_32 rfl rfl, ldNb (hS.1) agg_32 rfl rfl, trivial⟩) ?_
      refine RS_e rfl rfl (ef_call (k := 101) (args := [.pointer (some ⟨bm, 0, none⟩), a27, a7]) (meter_join (T.node le ll lr).sum e.tal bm (j) _ (st25.get 1 rfl)) body_101 (by kernel_rfl)) ?_
      rintro _ w28 ⟨_, rfl, rfl, hbj, hx30⟩
      have st29 := st25.turned 1 rfl (.inl (by simp)) hbj hx30
      have st31 : St [bm] w w28 [(gn, 181, [.string e.key, .string e.key, .int .i64 e.c, .int .i64 e.n, .string e.val, .bool e.dead, .int .i64 e.tal.k, .int .u64 e.tal.a, .int .u64 e.tal.b, .int .i64 e.tal.k, .int .u64 e.tal.a, .int .u64 e.tal.b, .pointer (some ⟨gl, 0, none⟩), .pointer (some ⟨gr, 0, none⟩), .int .i64 (IntKind.i64.wrap ((IntKind.i64.wrap ((((T.node le ll lr).size : Nat) : Int) + 1)) + (((T.node re rl rr).size : Nat) : Int))), .int .i64 (IntKind.i64.wrap (1 + (if (((T.node re rl rr).high : Nat) : Int) > (((T.node le ll lr).high : Nat) : Int) then (((T.node re rl rr).high : Nat) : Int) else (((T.node le ll lr).high : Nat) : Int))))]), (bm, 205, [.int .i64 (IntKind.i64.wrap (j + 1))])] := st29
      refine ⟨⟨st31.get 0 rfl, htb.ext st31.ext hnt, hbl.ext st31.ext hnl⟩, ?_⟩
      let a32 : Value := .agg #[.int .i64 (((T.node le ll lr).sum.join e.tal).k), .int .u64 (((T.node le ll lr).sum.join e.tal).a), .int .u64 (((T.node le ll lr).sum.join e.tal).b)]
      let a33 : Value := .pointer (some ⟨gn, 9, none⟩)
      refine RS_sgP 2 [.p a24, .p a33] [(0, a1), (3, a4), (9, a24), (57, a32), (59, a33)] (fun _ => trivial) ?_
      refine RS_f rfl rfl (ef_store st31 rfl rfl rfl size_32 0 rfl rfl rfl rfl (.inr hgn)) ?_
      rintro _ w34 ⟨rfl, st35, hx36⟩
      replace st35 : St [bm] w w34 [(gn, 181, [.string e.key, .string e.key, .int .i64 e.c, .int .i64 e.n, .string e.val, .bool e.dead, .int .i64 e.tal.k, .int .u64 e.tal.a, .int .u64 e.tal.b, .int .i64 (((T.node le ll lr).sum.join e.tal).k), .int .u64 (((T.node le ll lr).sum.join e.tal).a), .int .u64 (((T.node le ll lr).sum.join e.tal).b), .pointer (some ⟨gl, 0, none⟩), .pointer (some ⟨gr, 0, none⟩), .int .i64 (IntKind.i64.wrap ((IntKind.i64.wrap ((((T.node le ll lr).size : Nat) : Int) + 1)) + (((T.node re rl rr).size : Nat) : Int))), .int .i64 (IntKind.i64.wrap (1 + (if (((T.node re rl rr).high : Nat) : Int) > (((T.node le ll lr).high : Nat) : Int) then (((T.node re rl rr).high : Nat) : Int) else (((T.node le ll lr).high : Nat) : Int))))]), (bm, 205, [.int .i64 (IntKind.i64.wrap (j + 1))])] := st35
      refine RS_pk [(0, a1), (3, a4), (9, a24)] ?_
      refine RS_nil <| n_then <| W_seq <| W_seq <| W_region <| RP_sg 2 [.p a4, .p (.bool true)] [(0, a1), (3, a4), (9, a24), (61, .bool true)] trivial ?_
      refine RP_nil <| n_then <| W_true rfl ?_
      refine W_regionS ⟨(fun w' => Blk w' gn 181 [.string e.key, .string e.key, .int .i64 e.c, .int .i64 e.n, .string e.val, .bool e.dead, .int .i64 e.tal.k, .int .u64 e.tal.a, .int .u64 e.tal.b, .int .i64 (((T.node le ll lr).sum.join e.tal).k), .int .u64 (((T.node le ll lr).sum.join e.tal).a), .int .u64 (((T.node le ll lr).sum.join e.tal).b), a3, a4, .int .i64 (IntKind.i64.wrap ((IntKind.i64.wrap ((((T.node le ll lr).size : Nat) : Int) + 1)) + (((T.node re rl rr).size : Nat) : Int))), .int .i64 (IntKind.i64.wrap (1 + (if (((T.node re rl rr).high : Nat) : Int) > (((T.node le ll lr).high : Nat) : Int) then (((T.node re rl rr).high : Nat) : Int) else (((T.node le ll lr).high : Nat) : Int))))].toArray ∧ Blk w' bt 179 [.int .i64 0, .int .u64 0, .int .u64 0, a26, .pointer p].toArray ∧ Blk w' gr 181 [.string re.key, .string re.key, .int .i64 re.c, .int .i64 re.n, .string re.val, .bool re.dead, .int .i64 re.tal.k, .int .u64 re.tal.a, .int .u64 re.tal.b, .int .i64 ((T.node re rl rr).sum.k), .int .u64 ((T.node re rl rr).sum.a), .int .u64 ((T.node re rl rr).sum.b), .pointer prl, .pointer prr, .int .i64 (((T.node re rl rr).size : Nat) : Int), .int .i64 (((T.node re rl rr).high : Nat) : Int)].toArray), (fun _ => True)⟩ (.cons 1 0 (.cons 1 1 (.cons 1 2 (.cons 1 3 (.cons 1 4 (.cons 1 5 (.cons 1 6 (.cons 1 7 (.cons 1 8 (.cons 1 9 (.cons 1 10 (.cons 1 11 (.cons 1 12 (.cons 2 13 (.cons 0 14 (.cons 0 15 (.cons 3 16 .nil))))))))))))))))) 17 (by kernel_rfl) (by kernel_rfl) ?_
      have st37 := st35.drew
      let a38 : Value := .agg #[.int .i64 ((T.node re rl rr).sum.k), .int .u64 ((T.node re rl rr).sum.a), .int .u64 ((T.node re rl rr).sum.b)]
      refine RS_sg 13 [.p a24, .p a1, .p a1, .p (.pointer (some ⟨bt, 3, none⟩)), .l 80 (.pointer (some ⟨bt, 3, none⟩)) a26, .p a24, .p a24, .p a33, .l 32 a33 a32, .p a4, .p a4, .p (.pointer (some ⟨gr, 9, none⟩)), .l 32 (.pointer (some ⟨gr, 9, none⟩)) a38] [(9, a24), (62, a24), (66, a26), (70, a32), (74, a38)] (⟨st37.get 0 rfl, htb.ext st37.ext hnt, hbr.ext st37.ext hnr⟩) (fun _ hS => ⟨ld1b (hS.2.1) nagg_80 rfl, ldNb (hS.1) agg_32 rfl rfl, ldNb (hS.2.2) agg_32 rfl rfl, trivial⟩) ?_
      refine RS_e rfl rfl (ef_call (k := 101) (args := [.pointer (some ⟨bm, 0, none⟩), a32, a38]) (meter_join ((T.node le ll lr).sum.join e.tal) (T.node re rl rr).sum bm (IntKind.i64.wrap (j + 1)) _ (st37.get 1 rfl)) body_101 (by kernel_rfl)) ?_
      rintro _ w39 ⟨_, rfl, rfl, hbj, hx41⟩
      have st40 := st37.turned 1 rfl (.inl (by simp)) hbj hx41
      have st42 : St [bm] w w39 [(gn, 181, [.string e.key, .string e.key, .int .i64 e.c, .int .i64 e.n, .string e.val, .bool e.dead, .int .i64 e.tal.k, .int .u64 e.tal.a, .int .u64 e.tal.b, .int .i64 (((T.node le ll lr).sum.join e.tal).k), .int .u64 (((T.node le ll lr).sum.join e.tal).a), .int .u64 (((T.node le ll lr).sum.join e.tal).b), .pointer (some ⟨gl, 0, none⟩), .pointer (some ⟨gr, 0, none⟩), .int .i64 (IntKind.i64.wrap ((IntKind.i64.wrap ((((T.node le ll lr).size : Nat) : Int) + 1)) + (((T.node re rl rr).size : Nat) : Int))), .int .i64 (IntKind.i64.wrap (1 + (if (((T.node re rl rr).high : Nat) : Int) > (((T.node le ll lr).high : Nat) : Int) then (((T.node re rl rr).high : Nat) : Int) else (((T.node le ll lr).high : Nat) : Int))))]), (bm, 205, [.int .i64 (IntKind.i64.wrap (IntKind.i64.wrap (j + 1) + 1))])] := st40
      refine ⟨⟨st42.get 0 rfl, htb.ext st42.ext hnt, hbr.ext st42.ext hnr⟩, ?_⟩
      let a43 : Value := .agg #[.int .i64 ((((T.node le ll lr).sum.join e.tal).join (T.node re rl rr).sum).k), .int .u64 ((((T.node le ll lr).sum.join e.tal).join (T.node re rl rr).sum).a), .int .u64 ((((T.node le ll lr).sum.join e.tal).join (T.node re rl rr).sum).b)]
      refine RS_sgP 2 [.p a24, .p a33] [(9, a24), (75, a43), (77, a33)] (fun _ => trivial) ?_
      refine RS_f rfl rfl (ef_store st42 rfl rfl rfl size_32 0 rfl rfl rfl rfl (.inr hgn)) ?_
      rintro _ w44 ⟨rfl, st45, hx46⟩
      replace st45 : St [bm] w w44 [(gn, 181, [.string e.key, .string e.key, .int .i64 e.c, .int .i64 e.n, .string e.val, .bool e.dead, .int .i64 e.tal.k, .int .u64 e.tal.a, .int .u64 e.tal.b, .int .i64 ((((T.node le ll lr).sum.join e.tal).join (T.node re rl rr).sum).k), .int .u64 ((((T.node le ll lr).sum.join e.tal).join (T.node re rl rr).sum).a), .int .u64 ((((T.node le ll lr).sum.join e.tal).join (T.node re rl rr).sum).b), .pointer (some ⟨gl, 0, none⟩), .pointer (some ⟨gr, 0, none⟩), .int .i64 (IntKind.i64.wrap ((IntKind.i64.wrap ((((T.node le ll lr).size : Nat) : Int) + 1)) + (((T.node re rl rr).size : Nat) : Int))), .int .i64 (IntKind.i64.wrap (1 + (if (((T.node re rl rr).high : Nat) : Int) > (((T.node le ll lr).high : Nat) : Int) then (((T.node re rl rr).high : Nat) : Int) else (((T.node le ll lr).high : Nat) : Int))))]), (bm, 205, [.int .i64 (IntKind.i64.wrap (IntKind.i64.wrap (j + 1) + 1))])] := st45
      refine RS_pk [(9, a24)] ?_
      refine RS_nil <| n_then <| W_seq <| W_region <| RP_sg 2 [.p a24, .p a24] [(8, a24)] trivial ?_
      refine RP_nil <| n_then <| W_ret <| ret_of (P := Tryd.prog) (fn := Tryd.f147) (m := [(8, .pointer (some ⟨gn, 0, none⟩))]) (w := w44) (res1 rfl (rv_tmp rfl)) ?_
      exact ⟨gn, rfl, hgn, ⟨gn, _, _, rfl, by rw [T.size, T.high, ← wsz, ← whi]; exact st45.get 0 rfl, hl'.to st45.ext hno, hr'.to st45.ext hno⟩, ⟨htb.ext st45.ext hnt, st45.get 1 rfl⟩, st45.ext⟩
end Go.Proofs.YtcopemgkjbaaeaaDoor
