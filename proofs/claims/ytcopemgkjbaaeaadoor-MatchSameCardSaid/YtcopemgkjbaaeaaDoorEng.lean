/-
  A small engine for walking code: the frame is an association list of slots, memory a list of blocks known whole; one lemma for each kind of operation.
-/
import Derived.Test.YtcopemgkjbaaeaaDoorSched
import Derived.RangeFuncRecord
import Derived.RangeFuncIn
import Derived.RangeFuncLeaves
import Derived.RangeFuncCalls
namespace Go.Proofs.YtcopemgkjbaaeaaDoor
set_option linter.all false
open Go.RowKit

theorem beq_no {i j : Nat} (e : ¬ i = j) : Nat.beq i j = false := by
  cases hb : Nat.beq i j with
  | false => rfl
  | true => exact absurd (Nat.eq_of_beq_eq_true hb) e

abbrev SM := List (Nat × Value)
/-- the key under which the marks of loops over functions stand; no slot is looked up there -/
def mkK : Nat := 1000000
def look : SM → Nat → Option Value
  | [], _ => none
  | (k, v) :: l, i => cond (Nat.beq k mkK) (look l i) (cond (Nat.beq k i) (some v) (look l i))
def markB : Value → Nat
  | .pointer (some a) => a.block
  | _ => 0
def mark_ (D : Nat) : Deferred := { target := .collected D, args := #[] }
def marks : SM → SM
  | [] => []
  | (k, v) :: m => cond (Nat.beq k mkK) ((k, v) :: marks m) (marks m)
def unmark : SM → SM
  | [] => []
  | (k, v) :: m => cond (Nat.beq k mkK) (unmark m) ((k, v) :: unmark m)
def marksOf : SM → List Nat
  | [] => []
  | (k, v) :: m => cond (Nat.beq k mkK) (markB v :: marksOf m) (marksOf m)
theorem marksOf_marks : ∀ m, marksOf (marks m) = marksOf m
  | [] => rfl
  | (k, v) :: m => by
    simp only [marks, marksOf]
    cases h : Nat.beq k mkK <;> simp [marksOf, h, marksOf_marks m]
theorem marksOf_unmark : ∀ m, marksOf (unmark m) = []
  | [] => rfl
  | (k, v) :: m => by
    simp only [unmark]
    cases h : Nat.beq k mkK <;> simp [marksOf, h, marksOf_unmark m]
theorem look_ne : ∀ {m : SM} {i v}, look m i = some v → Nat.beq i mkK = false
  | [], _, _, h => by cases h
  | (k, u) :: m, i, v, h => by
    simp only [look] at h
    cases hk : Nat.beq k mkK <;> simp only [hk, cond_true, cond_false] at h
    · cases hi : Nat.beq k i <;> simp only [hi, cond_true, cond_false] at h
      · exact look_ne h
      · rw [← Nat.eq_of_beq_eq_true hi]; exact hk
    · exact look_ne h
theorem look_marks : ∀ (m : SM) i, look (marks m) i = none
  | [], _ => rfl
  | (k, u) :: m, i => by
    simp only [marks]
    cases hk : Nat.beq k mkK <;> simp only [cond_true, cond_false]
    · exact look_marks m i
    · simp only [look, hk, cond_true]; exact look_marks m i
theorem look_unmark : ∀ (m : SM) i, look (unmark m) i = look m i
  | [], _ => rfl
  | (k, u) :: m, i => by
    simp only [unmark, look]
    cases hk : Nat.beq k mkK <;> simp only [cond_true, cond_false]
    · simp only [look, hk, cond_false, look_unmark m i]
    · exact look_unmark m i
def opv (m : SM) : Operand → Option Value
  | .tmp t => look m t
  | .const v => some v
  | .global g => some (.pointer (some ⟨g, 0, none⟩))
  | .func f => some (.func (.func f) #[] #[])

/-- The frame a has n slots, the marks of m as its deferred calls, and in its slots at least what m tells. -/
structure Slots (n : Nat) (a : Act) (m : SM) : Prop where
  defers : a.defers = (marksOf m).map mark_
  size : a.tmps.size = n
  small : n ≤ mkK
  get : ∀ i v, look m i = some v → a.tmps[i]? = some v

/-- What an operand map tells, agrees with m. -/
def Agrees (m : SM) (ρ : Operand → Value) : Prop := ∀ x v, opv m x = some v → ρ x = v

theorem Slots.agrees {n : Nat} {a : Act} {m : SM} (h : Slots n a m) : Agrees m a.eval := fun x v hx => by
  cases x with
  | tmp t => simp only [Act.eval, Array.getD_eq_getD_getElem?, h.get t v hx]; rfl
  | const u => simpa [opv, Act.eval] using hx
  | global g => simpa [opv, Act.eval] using hx
  | func f => simpa [opv, Act.eval] using hx

theorem Slots.put {n : Nat} {a : Act} {m : SM} (h : Slots n a m) {d : Nat} (hd : Nat.blt d n = true) (v : Value) : Slots n (a.put (some d) v) ((d, v) :: m) := by
  have hd' : d < n := by simpa [Nat.blt_eq] using hd
  refine ⟨?_, by simpa [Act.put] using h.size, h.small, fun i u hu => ?_⟩
  · have hb : Nat.beq d mkK = false := beq_no (by have := h.small; omega)
    simp only [marksOf, hb, cond_false]
    exact h.defers
  have hdk : Nat.beq d mkK = false := beq_no (by have := h.small; omega)
  simp only [Act.put, look, hdk, cond_false] at hu ⊢
  rw [Array.getElem?_setIfInBounds]
  by_cases e : d = i
  · subst e
    simp only [Nat.beq_refl, cond_true, Option.some.injEq] at hu
    subst hu
    simp [h.size, hd']
  · rw [if_neg e]
    have hb := beq_no e
    rw [hb] at hu
    exact h.get i u hu

theorem Slots.put_none {n : Nat} {a : Act} {m : SM} (h : Slots n a m) (v : Value) : Slots n (a.put none v) m := h

/-- Only what is asked for is kept, and the marks. -/
def pick (m : SM) : List Nat → Option SM
  | [] => some (marks m)
  | i :: l => match look m i, pick m l with
    | some v, some r => some ((i, v) :: r)
    | _, _ => none
theorem pick_look {m : SM} : ∀ {l : List Nat} {r : SM}, pick m l = some r → ∀ i v, look r i = some v → look m i = some v
  | [], r, h, i, v, hl => by simp only [pick, Option.some.injEq] at h; subst h; rw [look_marks] at hl; cases hl
  | j :: l, r, h, i, v, hl => by
    simp only [pick] at h
    split at h
    · rename_i u r' hu hr
      injection h with h; subst h
      simp only [look, look_ne hu, cond_false] at hl
      by_cases e : j = i
      · subst e; simp only [Nat.beq_refl, cond_true] at hl; rw [← hl]; exact hu
      · have hb := beq_no e
        rw [hb] at hl
        exact pick_look hr i v hl
    · cases h
theorem pick_marks {m : SM} : ∀ {l : List Nat} {r : SM}, pick m l = some r → marksOf r = marksOf m
  | [], r, h => by simp only [pick, Option.some.injEq] at h; subst h; exact marksOf_marks m
  | j :: l, r, h => by
    simp only [pick] at h
    split at h
    · rename_i u r' hu hr
      injection h with h; subst h
      simp only [marksOf, look_ne hu, cond_false]
      exact pick_marks hr
    · cases h
theorem Slots.sub {n : Nat} {a : Act} {m r : SM} (h : Slots n a m) (hm : marksOf r = marksOf m) (hr : ∀ i v, look r i = some v → look m i = some v) : Slots n a r :=
  ⟨by rw [hm]; exact h.defers, h.size, h.small, fun i v hv => h.get i v (hr i v hv)⟩
theorem Slots.pick {n : Nat} {a : Act} {m r : SM} {l : List Nat} (h : Slots n a m) (hr : pick m l = some r) : Slots n a r := h.sub (pick_marks hr) (pick_look hr)

/-- The frame of which a piece of code is walked: how many slots; in which round of a loop over a function. -/
structure FrC where
  k : Nat
  ro : Option Nat
abbrev fen (ro : Option Nat) : Fence := { Fence.wide with round := ro }
theorem callsIn_fen {ro : Option Nat} {n : Nat} {P : Program} {f : FuncId} {args : Array Value} {w : World} {R : Ending → World → Prop} : CallsIn (fen ro) n P f args w R ↔ Calls P f args w R :=
  callsIn_wide (n := n)
theorem rowsIn_fen {ro : Option Nat} {n : Nat} {P : Program} {row : String} {args : Array Value} {w : World} {R : Value → World → Prop} (h : Rows P row args w R) : RowsIn (fen ro) n P row args w R :=
  fun c cs _ => let ⟨v, w', r, s⟩ := h c cs; ⟨v, w', r, (stepsIn_wide (P := P)).2 s⟩
def isDefer : Op → Bool
  | .defer _ => true
  | _ => false
theorem semAt_fen {ro : Option Nat} {ρ : Operand → Value} {o : Oper} (h : isDefer o.op = false) : Oper.semAt ro ρ o = execOp ρ o :=
  Oper.semAt_eq ro ρ o fun c e => by rw [e] at h; cases h
theorem opIn {ro : Option Nat} {P : Program} {o : Oper} {a : Act} {w : World} {next : Act → World → Prop} {Q : Exit → Act → World → Prop} (hd : isDefer o.op = false) (h : o.wp P a w next Q) : o.wpIn (fen ro) 0 P a w next Q := by
  refine ⟨fun _ _ => trivial, ?_⟩
  rw [show (fen ro).round = ro from rfl, semAt_fen hd]
  unfold Oper.wp at h
  generalize (execOp a.eval o).run P w = r at h
  unfold Oper.upon at h
  unfold Oper.uponIn
  split at h
  · exact h
  · exact h
  · exact h
  · exact ⟨fun h => (by cases h), callsIn_fen.2 h⟩
  · exact ⟨fun h => (by cases h), rowsIn_fen h⟩
  · exact h
  · exact h.elim
def noDefer : List Oper → Bool
  | [] => true
  | o :: l => !isDefer o.op && noDefer l
theorem noDefer_spec : ∀ {L : List Oper}, noDefer L = true → ∀ o ∈ L, isDefer o.op = false
  | [], _, o, ho => by cases ho
  | x :: l, h, o, ho => by
    simp only [noDefer, Bool.and_eq_true, Bool.not_eq_true'] at h
    rcases List.mem_cons.1 ho with rfl | ho
    · exact h.1
    · exact noDefer_spec h.2 o ho
theorem wpOps_in {ro : Option Nat} {P : Program} {L : List Oper} {Q : Exit → Act → World → Prop} (hQ : ∀ a w, ¬ Q .outgrown a w) (hd : noDefer L = true) : ∀ (l : List Nat) (a : Act) (w : World), wpOps P L.toArray Q l a w → wpOpsIn (fen ro) 0 P L.toArray Q l a w
  | [], _, _, h => h
  | i :: l, a, w, h => by
    have ih := wpOps_in (ro := ro) (P := P) hQ hd l
    unfold wpOps at h
    unfold wpOpsIn
    cases ho : (L.toArray)[i]? with
    | none => simp only [ho] at h ⊢; exact ih _ _ h
    | some o =>
      simp only [ho] at h ⊢
      have hod : isDefer o.op = false := noDefer_spec hd o (List.mem_of_getElem? (by simpa using ho))
      split at h
      · rename_i hw
        rw [if_pos hw]
        rcases h with h | ⟨_, a0, w0, h⟩
        · exact opIn hod (Oper.wp_mono (fun a w h => ih a w h) h)
        · exact absurd h (hQ _ _)
      · rename_i hw
        rw [if_neg hw]
        exact ⟨fun _ _ => trivial, ih _ _ h⟩

section
variable {P : Program} {n : FrC}

/-- What is wanted of a piece of code, said of slots. -/
abbrev SQ := Exit → SM → World → Prop
def lift (n : Nat) (Q : SQ) : Exit → Act → World → Prop
  | .panic _, _, _ => False
  | .outgrown, _, _ => False
  | e, a, w => ∃ m, Slots n a m ∧ Q e m w
def W (P : Program) (n : FrC) (c : Code) (Q : SQ) (m : SM) (w : World) : Prop := ∀ a, Slots n.k a m → c.wpIn (fen n.ro) 0 P (lift n.k Q) a w

/-- What is wanted behind a region. -/
def regQ (n : Nat) (K : SM → World → Prop) : Exit → Act → World → Prop
  | .normal, a, w => ∃ m, Slots n a m ∧ K m w
  | _, _, _ => False
def RP (P : Program) (n : FrC) (L : List Oper) (K : SM → World → Prop) (l : List Oper) (m : SM) (w : World) : Prop := ∀ a, Slots n.k a m → wpListIn (fen n.ro) 0 P L.toArray (regQ n.k K) l a w
def RS (P : Program) (n : FrC) (L : List Oper) (K : SM → World → Prop) (S : World → Prop) (l : List (Nat × Nat)) (m : SM) (w : World) : Prop := ∀ a, Slots n.k a m → wpS P L.toArray (regQ n.k K) S l a w

/-! ### code -/
variable {Q : SQ} {m : SM} {w : World} {c c2 : Code} {L : List Oper} {K : SM → World → Prop} {S : World → Prop}

def thenQ (P : Program) (n : FrC) (c : Code) (Q : SQ) : SQ
  | .normal, m, w => W P n c Q m w
  | e, m, w => Q e m w
theorem W_seq (h : W P n c (thenQ P n c2 Q) m w) : W P n (c.seq c2) Q m w := fun a ha => wpIn_seq (wpIn_mono (h a ha) fun e a w q => by
  cases e <;> first
    | exact q
    | (obtain ⟨m', hs, hq⟩ := q; exact hq a hs))
theorem W_region {id : Nat} (h : RP P n L (fun m w => Q .normal m w) L m w) : W P n (.region id L.toArray false) Q m w := fun a ha => wpIn_mono (wpIn_region_lit (h a ha)) fun e a w q => by
  cases e <;> first
    | exact q
    | exact q.elim
theorem W_regionS {id : Nat} (S : World → Prop) (l : List (Nat × Nat)) (k : Nat) (hm : P.follows .mixedOrders = true)
    (hc : (Nat.beq L.length k && onsOk k L && Region.noSelect L.toArray && Nat.ble l.length k && kpOk (kpBits l) l && schedOk L.toArray L k (kpBits l) l 0) = true)
    (h : RS P n L (fun m w => Q .normal m w) S l m w.drew) (hd : noDefer L = true := by kernel_rfl) : W P n (.region id L.toArray true) Q m w := fun a ha =>
  wpIn_mono (wpIn_region_draw fun t => wpOps_in (Q := regQ n.k fun m w => Q .normal m w) (fun _ _ h => h) hd _ _ _ (wpOps_sched S l k hm hc (fun _ _ _ _ _ h => h) (h a ha) t)) fun e a w q => by
    cases e <;> first
      | exact q
      | exact q.elim
theorem W_skip (h : Q .normal m w) : W P n .skip Q m w := fun _ ha => wpIn_skip ⟨m, ha, h⟩
theorem W_ret (h : Q .ret m w) : W P n .ret Q m w := fun _ ha => wpIn_ret ⟨m, ha, h⟩
theorem W_exit {id : Nat} (h : Q (.exit id) m w) : W P n (.exit id) Q m w := fun _ ha => wpIn_exit ⟨m, ha, h⟩
def blockQ (id : Nat) (Q : SQ) : SQ
  | .exit j, m, w => cond (Nat.beq j id) (Q .normal m w) (Q (.exit j) m w)
  | e, m, w => Q e m w
theorem W_block {id : Nat} (h : W P n c (blockQ id Q) m w) : W P n (.block id c) Q m w := fun a ha => wpIn_block (wpIn_mono (h a ha) fun e a w q => by
  cases e with
  | exit j =>
    obtain ⟨m', hs, hq⟩ := q
    simp only [Exit.inBlock]
    simp only [blockQ] at hq
    by_cases e : j = id
    · subst e; simp only [Nat.beq_refl, cond_true] at hq; rw [if_pos rfl]; exact ⟨m', hs, hq⟩
    · have hb := beq_no e
      rw [hb] at hq; rw [if_neg e]; exact ⟨m', hs, hq⟩
  | _ => exact q)
theorem W_cond {x : Operand} {b : Bool} (hx : opv m x = some (.bool b)) (ht : b = true → W P n c Q m w) (hf : b = false → W P n c2 Q m w) : W P n (.cond x c c2) Q m w := fun a ha =>
  wpIn_cond_split (ha.agrees _ _ hx) (fun h => ht h a ha) (fun h => hf h a ha)
theorem W_true {x : Operand} (hx : opv m x = some (.bool true)) (h : W P n c Q m w) : W P n (.cond x c c2) Q m w := fun a ha => wpIn_cond_true (ha.agrees _ _ hx) (h a ha)
theorem W_false {x : Operand} (hx : opv m x = some (.bool false)) (h : W P n c2 Q m w) : W P n (.cond x c c2) Q m w := fun a ha => wpIn_cond_false (ha.agrees _ _ hx) (h a ha)
/-- Forget slots. -/
theorem W_pick (l : List Nat) {r : SM} (hr : pick m l = some r) (h : W P n c Q r w) : W P n c Q m w := fun a ha => h a (ha.pick hr)
theorem least_ex {p : Nat → Prop} : ∀ k, p k → ∃ k, p k ∧ ∀ j, p j → k ≤ j := by
  intro k
  induction k using Nat.strongRecOn with
  | _ k ih =>
    intro hk
    by_cases h : ∃ j, j < k ∧ p j
    · obtain ⟨j, hj, hp⟩ := h
      exact ih j hj hp
    · exact ⟨k, hk, fun j hp => by
        rcases Nat.lt_or_ge j k with h1 | h1
        · exact absurd ⟨j, h1, hp⟩ h
        · exact h1⟩
open Classical in
noncomputable def least (p : Nat → Prop) : Nat := if h : ∃ k, p k ∧ ∀ j, p j → k ≤ j then Classical.choose h else 0
theorem least_spec {p : Nat → Prop} {k : Nat} (hk : p k) : p (least p) ∧ ∀ j, p j → least p ≤ j := by
  have h := least_ex k hk
  unfold least
  rw [dif_pos h]
  exact Classical.choose_spec h

def loopQ (I : Nat → SM → World → Prop) (k : Nat) (Q : SQ) : SQ
  | .normal, m, w => ∃ k', k' < k ∧ I k' m w
  | e, m, w => Q e m w
/-- A loop: what holds at the head of every round, with a number that every round lowers. -/
theorem W_loop (I : Nat → SM → World → Prop) {k0 : Nat} (h0 : I k0 m w) (hI : ∀ k m w, I k m w → W P n c (loopQ I k Q) m w) : W P n (.loop c) Q m w := by
  intro a ha
  refine wpIn_loop (fun a w => ∃ k m, Slots n.k a m ∧ I k m w) (fun a w => least fun k => ∃ m, Slots n.k a m ∧ I k m w) ⟨k0, m, ha, h0⟩ ?_
  rintro a w ⟨k, hk⟩
  obtain ⟨⟨m1, hs1, hi1⟩, _⟩ := least_spec (p := fun k => ∃ m, Slots n.k a m ∧ I k m w) hk
  refine wpIn_mono (hI _ m1 w hi1 a hs1) fun e a' w' q => ?_
  cases e with
  | normal =>
    obtain ⟨m2, hs2, k', hk', hi2⟩ := q
    exact ⟨⟨k', m2, hs2, hi2⟩, Nat.lt_of_le_of_lt ((least_spec (p := fun k => ∃ m, Slots n.k a' m ∧ I k m w') ⟨m2, hs2, hi2⟩).2 k' ⟨m2, hs2, hi2⟩) hk'⟩
  | _ => exact q
end
end Go.Proofs.YtcopemgkjbaaeaaDoor
