/-
  Loops over functions: the contract of an iterator, the law of the statement, the end of a function that holds one.
-/
import Derived.Test.YtcopemgkjbaaeaaDoorMem
namespace Go.Proofs.YtcopemgkjbaaeaaDoor
set_option linter.all false
open Go.RowKit

def cellsAt (w : World) (k : Nat) : Prop := ∃ o : Obj, w.heap[k]? = some o ∧ o.isCells = true
/-- w' is w, grown; of the blocks from B on those that hold no cells may have turned. -/
structure Grow (B : Nat) (w w' : World) : Prop where
  os : w'.os = w.os
  tape : w'.tape = w.tape
  output : w'.output = w.output
  size : w.heap.size ≤ w'.heap.size
  block : ∀ k, k < w.heap.size → (k < B ∨ cellsAt w k) → w'.heap[k]? = w.heap[k]?
/-- From B on whatever holds no cells lies as it lay. -/
structure KeepsN (B : Nat) (w w' : World) : Prop where
  size : w.heap.size ≤ w'.heap.size
  same : ∀ k o, B ≤ k → w.heap[k]? = some o → o.isCells = false → w'.heap[k]? = some o

section
variable {B B' : Nat} {w w' w'' w0 : World} {X : List Nat}
theorem lt_of_get {k : Nat} {o : Obj} (h : w.heap[k]? = some o) : k < w.heap.size := (Array.getElem?_eq_some_iff.1 h).1
theorem Grow.refl (B : Nat) (w : World) : Grow B w w := ⟨rfl, rfl, rfl, Nat.le_refl _, fun _ _ _ => rfl⟩
theorem cellsAt.keep {k : Nat} (h : cellsAt w k) (hk : w'.heap[k]? = w.heap[k]?) : cellsAt w' k := by obtain ⟨o, h1, h2⟩ := h; exact ⟨o, hk.trans h1, h2⟩
theorem Grow.trans (h : Grow B w w') (h' : Grow B w' w'') : Grow B w w'' :=
  ⟨h'.os.trans h.os, h'.tape.trans h.tape, h'.output.trans h.output, Nat.le_trans h.size h'.size, fun k hk hc => by
    have h1 := h.block k hk hc
    exact (h'.block k (Nat.lt_of_lt_of_le hk h.size) (hc.imp id fun hc => hc.keep h1)).trans h1⟩
theorem Grow.mono (h : Grow B w w') (hb : B' ≤ B) : Grow B' w w' := ⟨h.os, h.tape, h.output, h.size, fun k hk hc => h.block k hk (hc.imp (fun h => by omega) id)⟩
theorem Grow.of_ext (h : Ext [] w w') : Grow B w w' := ⟨h.os, h.tape, h.output, h.size, fun k hk _ => h.block k hk (by simp)⟩
theorem Grow.putObj {l : Nat} {o o' : Obj} (hl : w.heap[l]? = some o) (ho : o.isCells = false) (hB : B ≤ l) : Grow B w (w.putObj l o') :=
  ⟨rfl, rfl, rfl, by simp, fun k _ hc => World.putObj_heap_other (by
    rintro rfl
    rcases hc with hc | ⟨o2, h1, h2⟩
    · omega
    · rw [hl] at h1; injection h1 with h1; subst h1; rw [ho] at h2; cases h2)⟩
theorem Grow.alloc (o : Obj) : Grow B w (w.alloc o) := ⟨rfl, rfl, rfl, by simp, fun k hk _ => Below.heap_alloc w o k hk⟩
theorem KeepsN.refl (B : Nat) (w : World) : KeepsN B w w := ⟨Nat.le_refl _, fun _ _ _ h _ => h⟩
theorem KeepsN.trans (h : KeepsN B w w') (h' : KeepsN B w' w'') : KeepsN B w w'' := ⟨Nat.le_trans h.size h'.size, fun k o hb hk ho => h'.same k o hb (h.same k o hb hk ho) ho⟩
theorem KeepsN.mono (h : KeepsN B w w') (hb : B ≤ B') : KeepsN B' w w' := ⟨h.size, fun k o hk => h.same k o (Nat.le_trans hb hk)⟩
theorem KeepsN.ext (h : KeepsN B w w') (hx : Ext X w' w'') (hX : ∀ k ∈ X, cellsAt w' k ∨ k < B) : KeepsN B w w'' :=
  ⟨Nat.le_trans h.size hx.size, fun k o hb hk ho => hx.blk (h.same k o hb hk ho) fun hm => by
    rcases hX k hm with ⟨o2, h1, h2⟩ | h1
    · rw [h.same k o hb hk ho] at h1; injection h1 with h1; subst h1; rw [ho] at h2; cases h2
    · omega⟩
theorem KeepsN.ext0 (h : KeepsN B w w') (hx : Ext [] w' w'') : KeepsN B w w'' := h.ext hx (by simp)
theorem KeepsN.drew (h : KeepsN B w w') : KeepsN B w w'.drew := ⟨h.size, h.same⟩
theorem KeepsN.grow (h : KeepsN B w w') (hg : Grow B' w' w'') (hb : ∀ k o, B ≤ k → k < B' ∨ w.heap[k]? = some o → o.isCells = false → w''.heap[k]? = w'.heap[k]?) : KeepsN B w w'' :=
  ⟨Nat.le_trans h.size hg.size, fun k o hk hw ho => (hb k o hk (.inr hw) ho).trans (h.same k o hk hw ho)⟩
theorem Blk.cellsAt {g : Nat} {t : TypeId} {cs : Array Value} (h : Blk w g t cs) : cellsAt w g := ⟨_, h, rfl⟩
theorem Blk.grow {g : Nat} {t : TypeId} {cs : Array Value} (h : Blk w g t cs) (hg : Grow B w w') : Blk w' g t cs := (hg.block g h.lt (.inr h.cellsAt)).trans h
theorem Ext.grow (h : Ext X w0 w) (hg : Grow B w w') (hB : w0.heap.size ≤ B) : Ext X w0 w' :=
  ⟨hg.os.trans h.os, hg.tape.trans h.tape, hg.output.trans h.output, Nat.le_trans h.size hg.size, fun k hk hx => (hg.block k (Nat.lt_of_lt_of_le hk h.size) (.inl (by omega))).trans (h.block k hk hx)⟩
theorem St.grow {M : List (Nat × TypeId × List Value)} (h : St X w0 w M) (hg : Grow B w w') (hB : w0.heap.size ≤ B) : St X w0 w' M := ⟨h.ext.grow hg hB, h.nodup, fun b hb => (h.blk b hb).grow hg⟩
theorem Grow.ext_of (h : Grow B w w') : Ext [] w w' ∨ True := .inr trivial
end

def Abides (B : Nat) (J : World → Prop) : Prop := ∀ W W', J W → Grow B W W' → J W'
/-- A call of yield hands back a bool, and then R. -/
def YieldsAt (P : Program) (l : Nat) (vs : List Value) (W : World) (R : Bool → World → Prop) : Prop := YieldAt Fence.wide 0 P l vs.toArray W fun e W' => ∃ b, e = .returned (.bool b) ∧ R b W'
/-- An iterator's contract: it hands out xs, one behind the other, till it is told to stop; Nd: what it needs of memory, all the while. -/
def Iter {α : Type} (P : Program) (gf : FuncId) (cap : List Value) (encs : α → List Value) (xs : List α) (Nd : World → Prop) : Prop :=
  ∀ (l : Nat) (J : List α → World → Prop) (Jx : World → Prop) (W : World), l < W.heap.size → (∀ p, Abides W.heap.size (J p)) → Abides W.heap.size Jx → (∀ p W1, J p W1 → Nd W1) →
    (∀ pre x W1, J pre W1 → W.heap.size ≤ W1.heap.size → pre ++ [x] <+: xs → YieldsAt P l (encs x) W1 fun b W2 => KeepsN W.heap.size W1 W2 ∧ cond b (J (pre ++ [x]) W2) (Jx W2)) →
    J [] W → CR P gf (.func (.yield l) #[] #[] :: cap) W fun _ W' => J xs W' ∨ Jx W'

section
variable {P : Program} {n : FrC} {m : SM} {w w0 w' : World}
theorem ef_yield {l : Nat} {x : Operand} {xs : Array Operand} {ats : Array TypeId} {vs : List Value} {R : Bool → World → Prop} {dst : Option Nat} {ty : TypeId} {pos : String} {af : Array Edge} {gd : Option (Nat × Bool)}
    (h : YieldsAt P l vs w R) (hx : opv m x = some (.func (.yield l) #[] #[])) (ha : args_ m xs.toList = some vs) :
    EfY P m ⟨dst, .call ⟨.value x, xs, ats⟩, ty, pos, af, gd⟩ w fun v W => ∃ b, v = .bool b ∧ R b W := fun ρ hρ => by
  obtain ⟨fn, tmps, assign, body, h1, h2⟩ := h
  refine ⟨l, fn, tmps, assign, body, ?_, h2.mono ?_⟩
  · have hm : xs.map ρ = vs.toArray := by
      have := args_agrees hρ ha
      rw [← this, ← List.map_toArray, Array.toArray_toList]
    simp only [execOp, resolve, Deferred.ofValue, hρ.get hx, hm]
    simp [invoke, h1]
  · rintro e w' ⟨b, rfl, hR⟩
    exact ⟨.bool b, rfl, b, rfl, hR⟩

/-- How a round may end. -/
def roundQ {α : Type} (B : Nat) (W : World) (J : List α → World → Prop) (Jx : Code → World → Prop) (pre : List α) : SQ
  | .normal, _, w => KeepsN B W w ∧ J pre w
  | .ret, _, w => KeepsN B W w ∧ Jx .ret w
  | .exit id, _, w => KeepsN B W w ∧ Jx (.exit id) w
  | .goto t, _, w => KeepsN B W w ∧ Jx (.goto t) w
  | _, _, _ => False
/-- The assignment to the loop's variables, then the body. -/
def assignQ {α : Type} (P : Program) (n : FrC) (B : Nat) (W0 : World) (body : Code) (J : List α → World → Prop) (Jx : Code → World → Prop) (pre : List α) : SQ
  | .normal, m, w1 => KeepsN B W0 w1 ∧ ∀ W2, Grow B w1 W2 → W P n body (roundQ B W2 J Jx pre) m W2
  | _, _, _ => False

def zipP : List Nat → List Value → SM → SM
  | p :: ps, v :: vs, m => zipP ps vs ((p, v) :: m)
  | _, _, m => m
theorem slots_zip {k : Nat} : ∀ (ps : List Nat) (vs : List Value) (a : Act) (m : SM), Slots k a m → ps.all (fun p => Nat.blt p k) = true →
    Slots k { a with tmps := (ps.zip vs).foldl (fun t (q : Nat × Value) => t.setIfInBounds q.1 q.2) a.tmps } (zipP ps vs m)
  | [], vs, a, m, h, _ => by simpa [zipP] using h
  | p :: ps, [], a, m, h, _ => by simpa [zipP] using h
  | p :: ps, v :: vs, a, m, h, hp => by
    simp only [List.all_cons, Bool.and_eq_true] at hp
    have := slots_zip ps vs (a.put (some p) v) ((p, v) :: m) (h.put hp.1 v) hp.2
    simpa [zipP, Act.put] using this

theorem W_range {α : Type} {k : Nat} {g : Operand} {ps : Array Tmp} {assign body : Code} {Q : SQ} {gf : FuncId} {cap : List Value} {encs : α → List Value} {xs : List α} {Nd : World → Prop}
    (it : Iter P gf cap encs xs Nd) (hg : opv m g = some (.func (.func gf) #[] cap.toArray)) (hb : HasBody P gf) (hps : ∀ x, (encs x).length = ps.size) (hpk : ps.toList.all (fun p => Nat.blt p k) = true)
    (J : List α → World → Prop) (Jx : Code → World → Prop) (hJ : ∀ p, Abides w.heap.size (J p)) (hJx : ∀ c, Abides w.heap.size (Jx c)) (hNd : ∀ p W, J p W → Nd W) (h0 : J [] w)
    (hround : ∀ l pre x W0, J pre W0 → pre ++ [x] <+: xs → w.heap.size ≤ W0.heap.size → W P ⟨k, some l⟩ assign (assignQ P ⟨k, some l⟩ w.heap.size W0 body J Jx (pre ++ [x])) (zipP ps.toList (encs x) (unmark m)) W0)
    (hdone : ∀ D W', w.heap.size ≤ D → J xs W' → W'.heap[D]? = some (.deferred (some [])) → Q .normal ((mkK, .pointer (some ⟨D, 0, none⟩)) :: m) W')
    (hstop : ∀ c D W', w.heap.size ≤ D → Jx c W' → W'.heap[D]? = some (.deferred (some [])) → W P ⟨k, none⟩ c Q ((mkK, .pointer (some ⟨D, 0, none⟩)) :: m) W') :
    W P ⟨k, none⟩ (.rangeFunc g ps assign body) Q m w := by
  intro a ha
  refine wpIn_rangeFunc fun fn _ => ?_
  have hro : (fen none).round = none := rfl
  rw [show (fen (FrC.mk k none).ro).round = none from rfl]
  obtain ⟨rec, hrec⟩ : ∃ rec : LoopState → Option Code → Loop, rec = fun st pe => { state := st, pending := pe, fn, tmps := a.tmps, params := ps, assign, body, defers := w.heap.size } := ⟨_, rfl⟩
  obtain ⟨W1, hW1⟩ : ∃ W1, (w.alloc (.deferred (some []))).alloc (.loop (rec .ready none)) = W1 := ⟨_, rfl⟩
  have hL1 : W1.heap[w.heap.size + 1]? = some (.loop (rec .ready none)) := by
    rw [← hW1]; have := World.alloc_heap_new (w.alloc (.deferred (some []))) (.loop (rec .ready none)); rwa [World.size_alloc] at this
  have hK1 : W1.heap[w.heap.size]? = some (.deferred (some [])) := by
    rw [← hW1]; exact (Below.heap_alloc _ _ _ (by simp)).trans (World.alloc_heap_new w _)
  have hg1 : Grow w.heap.size w W1 := by rw [← hW1]; exact Grow.trans (Grow.alloc _) (Grow.alloc _)
  have hsz : W1.heap.size = w.heap.size + 2 := by rw [← hW1]; simp
  have hI1 : J [] W1 := hJ _ _ _ h0 hg1
  refine ⟨w.heap.size + 1, [{ target := .collected w.heap.size, args := #[] }], W1, { target := .fn (.func gf) cap.toArray, args := #[.func (.yield (w.heap.size + 1)) #[] #[]] }, W1, gf,
    #[.func (.yield (w.heap.size + 1)) #[] #[]] ++ cap.toArray, W1, ?_, ?_, fun _ _ => trivial, ?_, fun h => (by cases h), ?_⟩
  · rw [← hW1, hrec]; exact run_enterLoop_outer _ _ _ _ _
  · simp only [resolve, ha.agrees _ _ hg]
    simp [go_sem]
  · simp [invoke, go_sem, hb _ _]
  · have hargs : #[Value.func (.yield (w.heap.size + 1)) #[] #[]] ++ cap.toArray = (Value.func (.yield (w.heap.size + 1)) #[] #[] :: cap).toArray := by simp
    rw [hargs]
    have cr := it (w.heap.size + 1)
      (fun pre W => J pre W ∧ W.heap[w.heap.size + 1]? = some (.loop (rec .ready none)) ∧ W.heap[w.heap.size]? = some (.deferred (some [])))
      (fun W => ∃ c, Jx c W ∧ W.heap[w.heap.size + 1]? = some (.loop (rec .done (some c))) ∧ W.heap[w.heap.size]? = some (.deferred (some [])))
      W1 (by omega)
      (fun p A B hA hAB => ⟨hJ _ _ _ hA.1 (hAB.mono (by omega)), (hAB.block _ (lt_of_get hA.2.1) (.inl (by omega))).trans hA.2.1, (hAB.block _ (lt_of_get hA.2.2) (.inl (by omega))).trans hA.2.2⟩)
      (fun A B hA hAB => by
        obtain ⟨c, h1, h2, h3⟩ := hA
        exact ⟨c, hJx _ _ _ h1 (hAB.mono (by omega)), (hAB.block _ (lt_of_get h2) (.inl (by omega))).trans h2, (hAB.block _ (lt_of_get h3) (.inl (by omega))).trans h3⟩)
      (fun p W h => hNd _ _ h.1) ?_ ⟨hI1, hL1, hK1⟩
    · refine callsIn_fen.2 (Calls.mono cr ?_)
      rintro e W2 ⟨v, rfl, h⟩
      rcases h with ⟨hi, hl, hk⟩ | ⟨c, hi, hl, hk⟩
      · refine ⟨none, _, by have := run_endLoop (P := P) hl (by rw [hrec]; simp); rw [hrec] at this; exact this, (mkK, .pointer (some ⟨w.heap.size, 0, none⟩)) :: m, ?_, ?_⟩
        · refine ⟨?_, ha.size, ha.small, fun i v hv => ?_⟩
          · simp only [marksOf, Nat.beq_refl, cond_true, List.map_cons, markB]
            rw [ha.defers]; rfl
          · exact ha.get i v (by simpa only [look, Nat.beq_refl, cond_true] using hv)
        · exact hdone _ _ (Nat.le_refl _) (hJ _ _ _ hi (Grow.putObj hl rfl (by omega))) ((World.putObj_heap_other (by omega)).trans hk)
      · refine ⟨some c, _, by have := run_endLoop (P := P) hl (by rw [hrec]; simp); rw [hrec] at this; exact this, ?_⟩
        have hsl : Slots k { a with defers := [{ target := .collected w.heap.size, args := #[] }] ++ a.defers } ((mkK, .pointer (some ⟨w.heap.size, 0, none⟩)) :: m) := by
          refine ⟨?_, ha.size, ha.small, fun i v hv => ?_⟩
          · simp only [marksOf, Nat.beq_refl, cond_true, List.map_cons, markB]
            rw [ha.defers]; rfl
          · exact ha.get i v (by simpa only [look, Nat.beq_refl, cond_true] using hv)
        exact hstop c _ _ (Nat.le_refl _) (hJx _ _ _ hi (Grow.putObj hl rfl (by omega))) ((World.putObj_heap_other (by omega)).trans hk) _ hsl
    · -- one round
      rintro pre x W0 ⟨hi, hl, hk⟩ hle hpre
      have hlt : w.heap.size + 1 < W0.heap.size := lt_of_get hl
      have hy := run_yield (P := P) (args := (encs x).toArray) hl (by rw [hrec]; simpa using hps x)
      rw [hrec] at hy
      have hsl : Slots k { tmps := (ps.zip (encs x).toArray).foldl (fun tmps (t, a) => tmps.setIfInBounds t a) a.tmps, defers := [] } (zipP ps.toList (encs x) (unmark m)) := by
        have h1 : Slots k { tmps := a.tmps, defers := [] } (unmark m) := ⟨by rw [marksOf_unmark]; rfl, ha.size, ha.small, fun i v hv => ha.get i v (by rwa [look_unmark] at hv)⟩
        have h2 := slots_zip ps.toList (encs x) _ _ h1 hpk
        have e : (ps.zip (encs x).toArray).foldl (fun tmps (t, a) => tmps.setIfInBounds t a) a.tmps = (ps.toList.zip (encs x)).foldl (fun t (q : Nat × Value) => t.setIfInBounds q.1 q.2) a.tmps := by
          rw [← Array.foldl_toList, Array.toList_zip]
        rw [e]; exact h2
      refine ⟨fn, _, assign, body, hy, roundIn_of_wpIn (F := Fence.wide) trivial (wpIn_mono (hround _ pre x W0 hi hpre (by omega) _ hsl) ?_)⟩
      intro e a1 w1 hq
      cases e with
      | panic ch => exact hq.elim
      | outgrown => exact hq.elim
      | ret => obtain ⟨_, _, h⟩ := hq; exact h.elim
      | exit id => obtain ⟨_, _, h⟩ := hq; exact h.elim
      | goto t => obtain ⟨_, _, h⟩ := hq; exact h.elim
      | normal =>
        obtain ⟨m1, hs1, hkn, hbody⟩ := hq
        have hl1 := hkn.same _ _ (by omega) hl rfl
        have hk1 := hkn.same _ _ (Nat.le_refl _) hk rfl
        refine ⟨_, run_beginRound hl1 (by rw [hrec]), ?_⟩
        have hlt1 := lt_of_get hl1
        have hl2 : (w1.putObj (w.heap.size + 1) (.loop { rec .ready none with state := .busy })).heap[w.heap.size + 1]? = some (.loop { rec .ready none with state := .busy }) := World.putObj_heap_same hlt1
        have hk2 : (w1.putObj (w.heap.size + 1) (.loop { rec .ready none with state := .busy })).heap[w.heap.size]? = some (.deferred (some [])) := (World.putObj_heap_other (by omega)).trans hk1
        have hkp : ∀ {A : World} {o : Obj}, KeepsN W1.heap.size A (A.putObj (w.heap.size + 1) o) := fun {A o} => ⟨by simp, fun j o' hj ho' _ => (World.putObj_heap_other (by omega)).trans ho'⟩
        refine wpIn_mono (hbody _ (Grow.putObj hl1 rfl (by omega)) _ hs1) ?_
        have fin : ∀ (jump : Option Code) (W3 : World), KeepsN w.heap.size (w1.putObj (w.heap.size + 1) (.loop { rec .ready none with state := .busy })) W3 →
            (Instr.endRound (w.heap.size + 1) jump).run P W3 = .ok (.bool jump.isNone) (W3.putObj (w.heap.size + 1) (.loop (rec (if jump.isNone then .ready else .done) jump))) ∧
            W3.heap[w.heap.size + 1]? = some (.loop { rec .ready none with state := .busy }) ∧
            (W3.putObj (w.heap.size + 1) (.loop (rec (if jump.isNone then .ready else .done) jump))).heap[w.heap.size + 1]? = some (.loop (rec (if jump.isNone then .ready else .done) jump)) ∧
            (W3.putObj (w.heap.size + 1) (.loop (rec (if jump.isNone then .ready else .done) jump))).heap[w.heap.size]? = some (.deferred (some [])) ∧
            KeepsN W1.heap.size W0 (W3.putObj (w.heap.size + 1) (.loop (rec (if jump.isNone then .ready else .done) jump))) := fun jump W3 hk3 => by
          have hl3 := hk3.same _ _ (by omega) hl2 rfl
          have := run_endRound (P := P) jump hl3
          rw [hrec] at this ⊢
          exact ⟨this, by rw [hrec] at hl3; exact hl3, World.putObj_heap_same (lt_of_get hl3), (World.putObj_heap_other (by omega)).trans (hk3.same _ _ (Nat.le_refl _) hk2 rfl),
            (((hkn.mono (by omega)).trans hkp).trans (hk3.mono (by omega))).trans hkp⟩
        rintro e a3 W3 hp
        cases e with
        | normal =>
          obtain ⟨_, _, hk3, hi3⟩ := hp
          obtain ⟨hr, hl3, hl4, hk4, hkn4⟩ := fin none W3 hk3
          exact ⟨_, _, hr, true, rfl, hkn4, hJ _ _ _ hi3 (Grow.putObj hl3 rfl (by omega)), hl4, hk4⟩
        | ret =>
          obtain ⟨_, _, hk3, hi3⟩ := hp
          obtain ⟨hr, hl3, hl4, hk4, hkn4⟩ := fin (some .ret) W3 hk3
          exact ⟨_, _, hr, false, rfl, hkn4, .ret, hJx _ _ _ hi3 (Grow.putObj hl3 rfl (by omega)), hl4, hk4⟩
        | exit id =>
          obtain ⟨_, _, hk3, hi3⟩ := hp
          obtain ⟨hr, hl3, hl4, hk4, hkn4⟩ := fin (some (.exit id)) W3 hk3
          exact ⟨_, _, hr, false, rfl, hkn4, .exit id, hJx _ _ _ hi3 (Grow.putObj hl3 rfl (by omega)), hl4, hk4⟩
        | goto t =>
          obtain ⟨_, _, hk3, hi3⟩ := hp
          obtain ⟨hr, hl3, hl4, hk4, hkn4⟩ := fin (some (.goto t)) W3 hk3
          exact ⟨_, _, hr, false, rfl, hkn4, .goto t, hJx _ _ _ hi3 (Grow.putObj hl3 rfl (by omega)), hl4, hk4⟩
        | panic ch => exact hp.elim
        | outgrown => exact hp.elim

/-- A function's end, one mark to shut. -/
theorem ret_ofM {fn : Func} {G : Value → World → Prop} {D : Nat} (hm : marksOf m = [D]) (hD : w.heap[D]? = some (.deferred (some []))) (h : ∀ w', Grow D w w' → ∃ v, Res P fn m w' v ∧ G v w') : retG P fn G .ret m w := by
  show ShutAll P _ (marksOf m) w
  rw [hm]
  obtain ⟨v, h1, h2⟩ := h _ (Grow.putObj (o' := .deferred none) hD rfl (Nat.le_refl _))
  exact ⟨_, run_takeDeferred hD, v, h1, v, rfl, h2⟩
theorem end_ofM {fn : Func} {G : Value → World → Prop} {D : Nat} (hm : marksOf m = [D]) (hD : w.heap[D]? = some (.deferred (some []))) (h : ∀ w', Grow D w w' → ∃ v, Res P fn m w' v ∧ G v w') : retG P fn G .normal m w :=
  ret_ofM (P := P) hm hD h
end
end Go.Proofs.YtcopemgkjbaaeaaDoor
