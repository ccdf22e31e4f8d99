/-
  Memory as a list of blocks that are known whole; what box, alloc, load, store and a call do to it.
-/
import Derived.Test.YtcopemgkjbaaeaaDoorSeg
import Derived.Wp
import Derived.Scope
namespace Go.Proofs.YtcopemgkjbaaeaaDoor
set_option linter.all false
open Go.RowKit

/-- w has grown out of w0, where only blocks of X have turned; the blocks of M are known whole. -/
structure St (X : List Nat) (w0 w : World) (M : List (Nat × TypeId × List Value)) : Prop where
  ext : Ext X w0 w
  nodup : (M.map (·.1)).Nodup
  blk : ∀ b ∈ M, Blk w b.1 b.2.1 b.2.2.toArray

section
variable {P : Program} {n : FrC} {m : SM} {w w0 w' : World} {X : List Nat} {M : List (Nat × TypeId × List Value)}

theorem St.init (w : World) (X : List Nat) : St X w w [] := ⟨Ext.refl X w, by simp, fun _ h => by cases h⟩
theorem St.get (h : St X w0 w M) (k : Nat) {g : Nat} {t : TypeId} {cs : List Value} (hk : M[k]? = some (g, t, cs)) : Blk w g t cs.toArray := h.blk _ (List.mem_of_getElem? hk)
theorem St.cell (h : St X w0 w M) (k i : Nat) {g : Nat} {t : TypeId} {cs : List Value} {v : Value} (hk : M[k]? = some (g, t, cs)) (hi : cs[i]? = some v) : w.cell? ⟨g, i, none⟩ = some v := by
  rw [(h.get k hk).cell i]; simpa using hi
theorem St.drew (h : St X w0 w M) : St X w0 w.drew M := ⟨h.ext.drew, h.nodup, h.blk⟩
/-- A block more, known at the world at hand. -/
theorem St.add (h : St X w0 w M) {g : Nat} {t : TypeId} {cs : List Value} (hb : Blk w g t cs.toArray) (hn : g ∉ M.map (·.1)) : St X w0 w ((g, t, cs) :: M) :=
  ⟨h.ext, by simpa using ⟨by simpa using hn, h.nodup⟩, fun b hm => by
    rcases List.mem_cons.1 hm with rfl | hm
    · exact hb
    · exact h.blk b hm⟩
theorem St.sub (h : St X w0 w M) (l : List Nat) {M' : List (Nat × TypeId × List Value)} (hl : M'.Sublist M) : St X w0 w M' :=
  ⟨h.ext, (hl.map (·.1)).nodup h.nodup, fun b hm => h.blk b (hl.subset hm)⟩
/-- behind a call -/
theorem St.call {Y : List Nat} (h : St X w0 w M) (hx : Ext Y w w') (hd : ∀ g ∈ M.map (·.1), g ∉ Y) (hY : ∀ k ∈ Y, k ∈ X ∨ w0.heap.size ≤ k) : St X w0 w' M :=
  ⟨⟨hx.os.trans h.ext.os, hx.tape.trans h.ext.tape, hx.output.trans h.ext.output, Nat.le_trans h.ext.size hx.size, fun k hk hxx =>
      (hx.block k (Nat.lt_of_lt_of_le hk h.ext.size) (fun hy => by
        rcases hY k hy with h1 | h1
        · exact hxx h1
        · omega)).trans (h.ext.block k hk hxx)⟩,
    h.nodup, fun b hb => (h.blk b hb).ext hx (hd _ (List.mem_map_of_mem hb))⟩
theorem St.call0 (h : St X w0 w M) (hx : Ext [] w w') : St X w0 w' M := h.call hx (by simp) (by simp)
theorem St.lt (h : St X w0 w M) (k : Nat) {g : Nat} {t : TypeId} {cs : List Value} (hk : M[k]? = some (g, t, cs)) : g < w.heap.size := (h.get k hk).lt

/-! ### loads -/
def NAgg (P : Program) (t : TypeId) : Prop := ∀ w, (isAgg t).run P w = .ok false w
def Agg (P : Program) (t : TypeId) (k : Nat) : Prop := (∀ w, (isAgg t).run P w = .ok true w) ∧ ∀ w, (sizeOf t).run P w = .ok k w
theorem ld1 (h : St X w0 w M) {t : TypeId} (ht : NAgg P t) (k : Nat) {g i : Nat} {t' : TypeId} {cs : List Value} {v : Value} (hk : M[k]? = some (g, t', cs)) (hi : cs[i]? = some v) :
    (Instr.loadAt t (.pointer (some ⟨g, i, none⟩))).run P w = .ok v w := by
  have hc := h.cell k i hk hi
  simp [Instr.loadAt, Instr.sureAddr, loadVar, ht w, load, Sem.run, hc]
theorem run_loadCellsFrom {g : Nat} {t : TypeId} {cs : List Value} (hb : Blk w g t cs.toArray) : ∀ (k i j : Nat) (acc : Array Value), i + j + k ≤ cs.length → (loadCellsFrom ⟨g, i, none⟩ j k acc).run P w = .ok (acc ++ ((cs.drop (i + j)).take k).toArray) w
  | 0, i, j, acc, _ => by simp [loadCellsFrom]
  | k + 1, i, j, acc, hle => by
    have hlt : i + j < cs.length := by omega
    have hc : w.cell? ((⟨g, i, none⟩ : Addr).add j) = some (cs[i + j]) := by
      have e : ((⟨g, i, none⟩ : Addr).add j) = ⟨g, i + j, none⟩ := by unfold Addr.add; split <;> simp_all
      rw [e, hb.cell]; simp [hlt]
    simp only [loadCellsFrom, load]
    simp only [Sem.run_bind, Sem.run, hc, Result.andThen_ok]
    rw [run_loadCellsFrom hb k i (j + 1) _ (by omega)]
    congr 1
    rw [List.drop_eq_getElem_cons hlt, List.take_succ_cons, show i + (j + 1) = i + j + 1 from by omega]
    simp
theorem ldN (h : St X w0 w M) {t : TypeId} {sz : Nat} (ht : Agg P t sz) (k : Nat) {g i : Nat} {t' : TypeId} {cs vs : List Value} (hk : M[k]? = some (g, t', cs)) (hi : (cs.drop i).take sz = vs) (hle : Nat.ble (i + sz) cs.length = true) :
    (Instr.loadAt t (.pointer (some ⟨g, i, none⟩))).run P w = .ok (.agg vs.toArray) w := by
  have hr := run_loadCellsFrom (P := P) (h.get k hk) sz i 0 #[] (by simpa [Nat.ble_eq] using hle)
  simp only [Instr.loadAt, Instr.sureAddr, loadVar, loadCells]
  simp [ht.1 w, ht.2 w, hr, hi]

theorem ld1b {t : TypeId} {g i : Nat} {t' : TypeId} {cs : List Value} {v : Value} (hb : Blk w g t' cs.toArray) (ht : NAgg P t) (hi : cs[i]? = some v) :
    (Instr.loadAt t (.pointer (some ⟨g, i, none⟩))).run P w = .ok v w :=
  ld1 (M := [(g, t', cs)]) ⟨Ext.refl [] w, by simp, fun b h => by simp at h; subst h; exact hb⟩ ht 0 rfl hi
theorem ldNb {t : TypeId} {sz : Nat} {g i : Nat} {t' : TypeId} {cs vs : List Value} (hb : Blk w g t' cs.toArray) (ht : Agg P t sz) (hi : (cs.drop i).take sz = vs) (hle : Nat.ble (i + sz) cs.length = true) :
    (Instr.loadAt t (.pointer (some ⟨g, i, none⟩))).run P w = .ok (.agg vs.toArray) w :=
  ldN (M := [(g, t', cs)]) ⟨Ext.refl [] w, by simp, fun b h => by simp at h; subst h; exact hb⟩ ht 0 rfl hi hle
theorem RP_at {l L : List Oper} {K : SM → World → Prop} {m' : SM} (e : m = m') (h : RP P n L K l m' w) : RP P n L K l m w := e ▸ h
theorem RS_at {l : List (Nat × Nat)} {L : List Oper} {K : SM → World → Prop} {S : World → Prop} {m' : SM} (e : m = m') (h : RS P n L K S l m' w) : RS P n L K S l m w := e ▸ h
theorem RS_pick {l : List (Nat × Nat)} {L : List Oper} {K : SM → World → Prop} {S : World → Prop} (r : List Nat) {m' : SM} (hr : pick m r = some m') (h : RS P n L K S l m' w) : RS P n L K S l m w := fun a ha => h a (ha.pick hr)
theorem W_true' {c c2 : Code} {Q : SQ} {x : Operand} {b : Bool} (hx : opv m x = some (.bool b)) (hb : b = true) (h : W P n c Q m w) : W P n (.cond x c c2) Q m w := by subst hb; exact W_true hx h
theorem W_false' {c c2 : Code} {Q : SQ} {x : Operand} {b : Bool} (hx : opv m x = some (.bool b)) (hb : b = false) (h : W P n c2 Q m w) : W P n (.cond x c c2) Q m w := by subst hb; exact W_false hx h

theorem stepR_scope {c : Code} {b : Frame} {a : Act} {k : List Item} {cs : List Frame} : step P (lone (b.atR a (.code (.scope c) :: k)) cs w) = .next (lone (b.atR a (.code c :: .inScope c :: k)) cs w) :=
  step_lone_go (by simp [stepG, stepG.exec, Frame.atR])
theorem stepR_inScope {c : Code} {b : Frame} {a : Act} {k : List Item} {cs : List Frame} : step P (lone (b.atR a (.inScope c :: k)) cs w) = .next (lone (b.atR a k) cs w) :=
  step_lone_go (by simp [stepG, stepG.exec, Frame.atR])
theorem wpIn_scope_straight {F : Fence} {n : Nat} {Q : Exit → Act → World → Prop} {a : Act} {c : Code} (h : c.wpIn F n P (Exit.noGoto Q) a w) : (Code.scope c).wpIn F n P Q a w := by
  intro b k cs hro hb hr
  have h0 : (lone (b.atR a (.code (.scope c) :: k)) cs w).fenced P F := fenced_calm hb hr rfl
  obtain ⟨e, a₁, w₁, hq, harr⟩ := h b (.inScope c :: k) cs hro hb hr
  cases e with
  | normal => exact ⟨.normal, a₁, w₁, hq, .head h0 stepR_scope (StepsIn.trans harr (.one (fenced_calm hb hr rfl) stepR_inScope))⟩
  | exit id =>
    have hx : exitTo id (.inScope c :: k) = exitTo id k := by simp [exitTo]
    exact ⟨.exit id, a₁, w₁, hq, fun k' hk => .head h0 stepR_scope (harr.1 k' (by rw [hx]; exact hk)), fun hr' hk => let ⟨k₁, h1, h2⟩ := harr.2 hr' (by rw [hx]; exact hk); ⟨k₁, h1, .head h0 stepR_scope h2⟩⟩
  | goto l => exact hq.elim
  | ret => exact ⟨_, a₁, w₁, hq, .of_steps (.one h0 stepR_scope) harr⟩
  | panic ch => exact ⟨_, a₁, w₁, hq, .of_steps (.one h0 stepR_scope) harr⟩
  | outgrown => exact ⟨_, a₁, w₁, hq, .of_steps (.one h0 stepR_scope) harr⟩
def scopeQ (Q : SQ) : SQ
  | .goto _, _, _ => False
  | e, m, w => Q e m w
theorem W_scope {c : Code} {Q : SQ} (h : W P n c (scopeQ Q) m w) : W P n (.scope c) Q m w := fun a ha => wpIn_scope_straight (wpIn_mono (h a ha) fun e a w q => by
  cases e <;> first
    | exact q
    | exact q.elim
    | (obtain ⟨_, _, hq⟩ := q; exact hq.elim))
theorem W_label {l : Nat} {Q : SQ} (h : Q .normal m w) : W P n (.label l) Q m w := fun _ ha => wpIn_label ⟨m, ha, h⟩
theorem n_scope {Q : SQ} (h : Q .normal m w) : scopeQ Q .normal m w := h
theorem r_scope {Q : SQ} (h : Q .ret m w) : scopeQ Q .ret m w := h
theorem e_scope {Q : SQ} {i : Nat} (h : Q (.exit i) m w) : scopeQ Q (.exit i) m w := h
def WR (P : Program) (n : FrC) (c : Code) (Q : SQ) : Nat → SM → World → Prop
  | 0, _, _ => False
  | k + 1, m, w => W P n c (fun e m w => match e with | .normal => WR P n c Q k m w | e => Q e m w) m w
def unQ (P : Program) (n : FrC) (c : Code) (Q : SQ) (k : Nat) : SQ
  | .normal, m, w => WR P n c Q k m w
  | e, m, w => Q e m w
theorem W_mono {c : Code} {Q R : SQ} (h : W P n c Q m w) (hq : ∀ e m w, Q e m w → R e m w) : W P n c R m w := fun a ha => wpIn_mono (h a ha) fun e a w q => by
  cases e <;> first
    | exact q
    | exact q.elim
    | (obtain ⟨m', hs, hq'⟩ := q; exact ⟨m', hs, hq _ _ _ hq'⟩)
/-- A loop of few rounds, round by round. -/
theorem W_unroll {c : Code} {Q : SQ} (k : Nat) (h : W P n c (unQ P n c Q k) m w) : W P n (.loop c) Q m w := by
  refine W_loop (WR P n c Q) (k0 := k + 1) (W_mono h fun e m w q => by cases e <;> exact q) fun j m w hj => ?_
  cases j with
  | zero => exact hj.elim
  | succ j =>
      refine W_mono hj fun e m w q => ?_
      cases e <;> first
        | exact q
        | exact ⟨j, Nat.lt_succ_self j, q⟩
theorem n_unr {c : Code} {Q : SQ} {k : Nat} (h : W P n c (unQ P n c Q k) m w) : unQ P n c Q (k + 1) .normal m w := W_mono h fun e m w q => by cases e <;> exact q
theorem r_unr {c : Code} {Q : SQ} {k : Nat} (h : Q .ret m w) : unQ P n c Q k .ret m w := h
theorem e_unr {c : Code} {Q : SQ} {k i : Nat} (h : Q (.exit i) m w) : unQ P n c Q k (.exit i) m w := h
theorem n_then {c : Code} {Q : SQ} (h : W P n c Q m w) : thenQ P n c Q .normal m w := h
theorem n_block {id : Nat} {Q : SQ} (h : Q .normal m w) : blockQ id Q .normal m w := h
theorem r_then {c : Code} {Q : SQ} (h : Q .ret m w) : thenQ P n c Q .ret m w := h
theorem r_block {id : Nat} {Q : SQ} (h : Q .ret m w) : blockQ id Q .ret m w := h
theorem r_loop {I : Nat → SM → World → Prop} {k : Nat} {Q : SQ} (h : Q .ret m w) : loopQ I k Q .ret m w := h
theorem e_then {c : Code} {Q : SQ} {i : Nat} (h : Q (.exit i) m w) : thenQ P n c Q (.exit i) m w := h
theorem e_loop {I : Nat → SM → World → Prop} {k : Nat} {Q : SQ} {i : Nat} (h : Q (.exit i) m w) : loopQ I k Q (.exit i) m w := h
theorem e_here {id : Nat} {Q : SQ} (h : Q .normal m w) : blockQ id Q (.exit id) m w := by simp only [blockQ, Nat.beq_refl, cond_true]; exact h
theorem e_on {id j : Nat} {Q : SQ} (hne : Nat.beq j id = false) (h : Q (.exit j) m w) : blockQ id Q (.exit j) m w := by simp only [blockQ, hne, cond_false]; exact h

/-! ### what writes -/
def HasBody (P : Program) (k : FuncId) : Prop := ∀ args w, (callFunc k args).run P w = .ok (.enter k args) w
/-- The call returns, and this holds of what it hands back and of the world behind it. -/
def CR (P : Program) (k : FuncId) (args : List Value) (w : World) (G : Value → World → Prop) : Prop := Calls P k args.toArray w fun e w' => ∃ v, e = .returned v ∧ G v w'
theorem CR.mono {k : FuncId} {args : List Value} {G G' : Value → World → Prop} (h : CR P k args w G) (hg : ∀ v w', G v w' → G' v w') : CR P k args w G' :=
  Calls.mono h fun _ _ ⟨v, e, g⟩ => ⟨v, e, hg _ _ g⟩
theorem CR.of {k : FuncId} {args : List Value} {R : Ending → World → Prop} {G : Value → World → Prop} (h : Calls P k args.toArray w R) (hr : ∀ e w', R e w' → ∃ v, e = .returned v ∧ G v w') : CR P k args w G := Calls.mono h hr

def retG (P : Program) (fn : Func) (G : Value → World → Prop) : SQ := retQ P fn fun e w' => ∃ v, e = .returned v ∧ G v w'
theorem CR_enter {k : Nat} {f : FuncId} {fn : Func} {c : Code} {args : List Value} {G : Value → World → Prop} (hf : P.funcs[f]? = some fn) (hb : fn.body = some c) (hn : fn.ntmps = k) (hle : (Nat.ble args.length k && Nat.ble k mkK) = true)
    (h : W P ⟨k, none⟩ c (retG P fn G) (numb args 0) w) (hm : marksOf (numb args 0) = [] := by rfl) : CR P f args w G := W_enter hf hb hn hle h hm
theorem ret_of {fn : Func} {G : Value → World → Prop} {v : Value} (hr : Res P fn m w v) (hG : G v w) (hm : marksOf m = [] := by rfl) : retG P fn G .ret m w := by
  show ShutAll P _ (marksOf m) w
  rw [hm]; exact ⟨v, hr, v, rfl, hG⟩
theorem end_of {fn : Func} {G : Value → World → Prop} {v : Value} (hr : Res P fn m w v) (hG : G v w) (hm : marksOf m = [] := by rfl) : retG P fn G .normal m w := by
  show ShutAll P _ (marksOf m) w
  rw [hm]; exact ⟨v, hr, v, rfl, hG⟩

variable {dst : Option Nat} {ty : TypeId} {pos : String} {af : Array Edge} {gd : Option (Nat × Bool)}

theorem Agrees.get {ρ : Operand → Value} (h : Agrees m ρ) {x : Operand} {v : Value} (hx : opv m x = some v) : ρ x = v := h x v hx

theorem St.push (h : St X w0 w M) (t : TypeId) (cs : List Value) : St X w0 (w.alloc (.cells cs.toArray t)) ((w.heap.size, t, cs) :: M) := by
  have h1 : St X w0 (w.alloc (.cells cs.toArray t)) M := h.call0 ((Ext.refl [] w).alloc _)
  refine h1.add (Blk.new w t cs.toArray) fun hm => ?_
  obtain ⟨b, hb, e⟩ := List.mem_map.1 hm
  have := (h.blk b hb).lt
  omega

theorem ef_box {t : TypeId} {x : Operand} {v : Value} {cs : List Value} (h : St X w0 w M) (hx : opv m x = some v) (hc : v.cells.toList = cs) :
    Ef P m ⟨dst, .box t x, ty, pos, af, gd⟩ w fun r W => ∃ g, r = some (.pointer (some ⟨g, 0, none⟩)) ∧ w0.heap.size ≤ g ∧ w.heap.size ≤ g ∧ St X w0 W ((g, t, cs) :: M) ∧ Ext [] w W := fun ρ hρ => by
  refine .inl ⟨_, _, ?_, w.heap.size, rfl, h.ext.size, Nat.le_refl _, h.push t cs, (Ext.refl [] w).alloc _⟩
  have e : v.cells = cs.toArray := by rw [← hc]
  simp only [execOp, Instr.box, hρ.get hx, newVar, newRow, newObj, e]
  rfl
theorem ef_alloc {t : TypeId} {z : Value} {cs : List Value} (h : St X w0 w M) (hz : ∀ w, (zeroValue t).run P w = .ok z w) (hc : z.cells.toList = cs) :
    Ef P m ⟨dst, .alloc t, ty, pos, af, gd⟩ w fun r W => ∃ g, r = some (.pointer (some ⟨g, 0, none⟩)) ∧ w0.heap.size ≤ g ∧ w.heap.size ≤ g ∧ St X w0 W ((g, t, cs) :: M) ∧ Ext [] w W := fun ρ hρ => by
  refine .inl ⟨_, _, ?_, w.heap.size, rfl, h.ext.size, Nat.le_refl _, h.push t cs, (Ext.refl [] w).alloc _⟩
  have e : z.cells = cs.toArray := by rw [← hc]
  simp only [execOp, Instr.alloc, newVar, newRow, newObj]
  simp only [Sem.run_bind, hz w, Result.andThen_ok, e]
  rfl

/-- cells overwritten -/
def over_ (cs : List Value) : Nat → List Value → List Value
  | _, [] => cs
  | i, v :: l => over_ (cs.set i v) (i + 1) l
theorem run_storeCells {t : TypeId} : ∀ (vs : List Value) (cs : List Value) (i j : Nat) (w : World) {g : Nat} (_ : Blk w g t cs.toArray) (_ : vs.all (·.oneCell) = true) (_ : i + j + vs.length ≤ cs.length),
    ∃ W, (storeCells ⟨g, i, none⟩ vs j).run P w = .ok () W ∧ Blk W g t (over_ cs (i + j) vs).toArray ∧ Ext [g] w W
  | [], cs, i, j, w, g, hb, _, _ => ⟨w, by simp [storeCells], hb, Ext.refl _ _⟩
  | v :: l, cs, i, j, w, g, hb, ho, hle => by
    have e : ((⟨g, i, none⟩ : Addr).add j) = ⟨g, i + j, none⟩ := by unfold Addr.add; split <;> simp_all
    simp only [List.all_cons, Bool.and_eq_true] at ho
    have hlt : i + j < cs.length := by simp at hle; omega
    have hc : w.cell? ⟨g, i + j, none⟩ = some (cs[i + j]) := by rw [hb.cell]; simp [hlt]
    have hb1 : Blk (w.setCell ⟨g, i + j, none⟩ v) g t (cs.set (i + j) v).toArray := by simpa using hb.set_ (i + j) v
    obtain ⟨W, h1, h2, h3⟩ := run_storeCells l (cs.set (i + j) v) i (j + 1) _ hb1 ho.2 (by simp at hle ⊢; omega)
    refine ⟨W, ?_, h2, ((Ext.refl [g] w).setCell (.inl (by simp)) v).trans h3⟩
    simp only [storeCells, store, e]
    rw [Sem.run_bind]
    have : (Sem.store Mode.plain (⟨g, i + j, none⟩ : Addr) v (Sem.pure ())).run P w = .ok () (w.setCell ⟨g, i + j, none⟩ v) := by
      have hf := hb.frozen (i + j)
      cases v <;> simp_all [Sem.run, Value.oneCell]
    rw [this]
    exact h1
theorem St.turned (h : St X w0 w M) (k : Nat) {g : Nat} {t : TypeId} {cs cs' : List Value} {W : World} (hk : M[k]? = some (g, t, cs)) (hX : g ∈ X ∨ w0.heap.size ≤ g) (hb : Blk W g t cs'.toArray) (hx : Ext [g] w W) :
    St X w0 W (M.set k (g, t, cs')) := by
  have hlt : k < M.length := (List.getElem?_eq_some_iff.1 hk).1
  have hk' : M[k] = (g, t, cs) := (List.getElem?_eq_some_iff.1 hk).2
  refine ⟨?_, ?_, fun b hb' => ?_⟩
  · exact ⟨hx.os.trans h.ext.os, hx.tape.trans h.ext.tape, hx.output.trans h.ext.output, Nat.le_trans h.ext.size hx.size, fun j hj hjx =>
      (hx.block j (Nat.lt_of_lt_of_le hj h.ext.size) (fun hy => by
        have : j = g := by simpa using hy
        subst this
        rcases hX with h1 | h1
        · exact hjx h1
        · omega)).trans (h.ext.block j hj hjx)⟩
  · have : (M.set k (g, t, cs')).map (·.1) = M.map (·.1) := by
      rw [List.map_set]
      apply List.ext_getElem? 
      intro i
      by_cases e : k = i
      · subst e; simp [hlt, hk']
      · simp [List.getElem?_set, e]
    rw [this]; exact h.nodup
  · rcases List.mem_iff_getElem?.1 hb' with ⟨i, hi⟩
    by_cases hne : k = i
    · subst hne
      rw [List.getElem?_set_self hlt] at hi
      injection hi with hi; subst hi; exact hb
    · rw [List.getElem?_set_ne hne] at hi
      have hm : b ∈ M := List.mem_of_getElem? hi
      refine (h.blk b hm).ext hx ?_
      simp only [List.mem_singleton]
      intro e
      have h1 : (M.map (·.1))[i]? = some g := by rw [List.getElem?_map, hi]; simp [e]
      have h2 : (M.map (·.1))[k]? = some g := by rw [List.getElem?_map, hk]; rfl
      exact hne ((List.getElem?_inj (by simpa using hlt) h.nodup).1 (h2.trans h1.symm))
theorem ef_store {t t' : TypeId} {x y : Operand} {g i sz : Nat} {cs vs : List Value} {v : Value} (h : St X w0 w M) (hx : opv m x = some (.pointer (some ⟨g, i, none⟩))) (hy : opv m y = some v) (hvs : v.cells.toList = vs)
    (hsz : ∀ w, (sizeOf t).run P w = .ok sz w) (k : Nat) (hk : M[k]? = some (g, t', cs)) (hlen : Nat.beq vs.length sz = true) (hone : vs.all (·.oneCell) = true) (hle : Nat.ble (i + vs.length) cs.length = true) (hX : g ∈ X ∨ w0.heap.size ≤ g) :
    Ef P m ⟨dst, .store t x y, ty, pos, af, gd⟩ w fun r W => r = none ∧ St X w0 W (M.set k (g, t', over_ cs i vs)) ∧ Ext [g] w W := fun ρ hρ => by
  obtain ⟨W, h1, h2, h3⟩ := run_storeCells (P := P) vs cs i 0 w (h.get k hk) hone (by simpa [Nat.ble_eq] using hle)
  refine .inr (.inl ⟨W, ?_, rfl, h.turned k hk hX h2 h3, h3⟩)
  have e : v.cells = vs.toArray := by rw [← hvs]
  have hl : vs.length = sz := by simpa using hlen
  simp only [execOp, Instr.storeAt, Instr.sureAddr, storeVar, hρ.get hx, hρ.get hy, e]
  simp [hsz w, hl, h1]

/-- what a call of a Go function calls, and with what -/
def args_ (m : SM) : List Operand → Option (List Value)
  | [] => some []
  | x :: l => match opv m x, args_ m l with
    | some v, some r => some (v :: r)
    | _, _ => none
def callee (m : SM) : Op → Option (FuncId × List Value)
  | .call ⟨.value f, xs, _⟩ => match opv m f, args_ m xs.toList with
    | some (.func (.func k) first cap), some vs => some (k, first.toList ++ vs ++ cap.toList)
    | _, _ => none
  | _ => none
theorem args_agrees {ρ : Operand → Value} (h : Agrees m ρ) : ∀ {l : List Operand} {vs : List Value}, args_ m l = some vs → l.map ρ = vs
  | [], vs, hv => by simp [args_] at hv; simp [hv]
  | x :: l, vs, hv => by
    simp only [args_] at hv
    split at hv
    · rename_i v r h1 h2
      injection hv with hv; subst hv
      simp [h _ _ h1, args_agrees h h2]
    · cases hv
theorem ef_call {op : Op} {k : FuncId} {args : List Value} {G : Value → World → Prop} (h : CR P k args w G) (hb : HasBody P k) (hc : callee m op = some (k, args)) :
    Ef P m ⟨dst, op, ty, pos, af, gd⟩ w fun r W => ∃ v, r = some v ∧ G v W := fun ρ hρ => by
  refine .inr (.inr ⟨k, args.toArray, ?_, h.mono fun v w' g => ?_⟩)
  · cases op <;> simp only [callee, reduceCtorEq] at hc
    rename_i cl
    obtain ⟨cal, xs, ats⟩ := cl
    cases cal <;> simp only [reduceCtorEq] at hc
    rename_i f
    split at hc
    · rename_i k' first cap vs hf ha
      injection hc with hc
      injection hc with h1 h2
      subst h1; subst h2
      have hm : xs.map ρ = vs.toArray := by
        have := args_agrees hρ ha
        rw [← this, ← List.map_toArray, Array.toArray_toList]
      simp only [execOp, resolve, Deferred.ofValue, hρ.get hf, hm]
      simp [invoke, hb _ w]
    · cases hc
  · exact ⟨v, rfl, g⟩
end
end Go.Proofs.YtcopemgkjbaaeaaDoor
