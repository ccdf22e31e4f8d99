/-
  A region that draws its order, carried out in ONE order: all that only looks comes first, what writes or calls comes in its forced order.
-/
import Derived.Test.YtcopemgkjbaaeaaDoorBase
namespace Go.Proofs.YtcopemgkjbaaeaaDoor
set_option linter.all false
open Go.RowKit

section
variable {P : Program} {ops : Array Oper} {Q : Exit → Act → World → Prop} {md : Region.Mode} {S : World → Prop}

/-- Which operations have come up, as the bits of a number. -/
def Rep (n : Nat) (listed : Array Bool) (m : Nat) : Prop := listed.size = n ∧ ∀ k, k < n → listed[k]? = some (m.testBit k)

theorem Rep.zero (n : Nat) : Rep n (Array.replicate n false) 0 := ⟨by simp, fun k hk => by simp [hk]⟩
theorem Rep.set {n : Nat} {listed : Array Bool} {m : Nat} (h : Rep n listed m) (i : Nat) : Rep n (listed.setIfInBounds i true) (m ||| 2 ^ i) := by
  refine ⟨by simpa using h.1, fun k hk => ?_⟩
  rw [Array.getElem?_setIfInBounds]
  by_cases e : i = k
  · subst e; simp [h.1, hk]
  · rw [if_neg e, h.2 k hk, Nat.testBit_or, Nat.testBit_two_pow, decide_eq_false e, Bool.or_false]
theorem Rep.getD {n : Nat} {listed : Array Bool} {m : Nat} (h : Rep n listed m) {k : Nat} (hk : k < n) (b : Bool) : listed.getD k b = m.testBit k := by
  rw [Array.getD_eq_getD_getElem?, h.2 k hk]; rfl
theorem Rep.out {n : Nat} {listed : Array Bool} {m : Nat} (h : Rep n listed m) {k : Nat} (hk : n ≤ k) (b : Bool) : listed.getD k b = b := by
  rw [Array.getD_eq_getD_getElem?, Array.getElem?_eq_none (by rw [h.1]; exact hk)]; rfl

def bindsAny (e : Edge) : Bool := match e.ground with | .textOnly _ => false | .gcOnly _ => false | _ => true
theorem bindsAny_eq (e : Edge) : Region.binds .any e = bindsAny e := by
  unfold Region.binds bindsAny; split <;> simp_all <;> rfl

/-- all that the operation waits for has come up -/
def edgesIn (n m : Nat) (o : Oper) : Bool := o.after.toList.all fun e => !bindsAny e || (m.testBit e.on && Nat.blt e.on n)
def freeB (ops : Array Oper) (m i : Nat) (oi : Oper) : List Oper → Nat → Bool
  | [], _ => true
  | oj :: l, j => (m.testBit j || Nat.beq j i || oj.after.toList.any (fun e => bindsAny e && Nat.beq e.on i) || oi.apart ops oj) && freeB ops m i oi l (j + 1)
def onlyB (n m i : Nat) : List Oper → Nat → Bool
  | [], _ => true
  | oj :: l, j => (m.testBit j || (edgesIn n m oj == Nat.beq j i)) && onlyB n m i l (j + 1)
def noneB (m : Nat) : Nat → Bool
  | 0 => true
  | k + 1 => m.testBit k && noneB m k

/-- whoever writes and does not keep S comes behind i -/
def keptB (kp : Nat) (m i : Nat) : List Oper → Nat → Bool
  | [], _ => true
  | oj :: l, j => (m.testBit j || Nat.beq j i || kp.testBit j || oj.after.toList.any (fun e => bindsAny e && Nat.beq e.on i)) && keptB kp m i l (j + 1)

/-- May the region's operations be taken in this order? (0: one that looks at no memory; 1: one that looks at what S tells; 2: one that writes; the bits of kp: behind which operations S is shown.) -/
def schedOk (ops : Array Oper) (L : List Oper) (n kp : Nat) : List (Nat × Nat) → Nat → Bool
  | [], m => noneB m n
  | (0, i) :: l, m => (match L[i]? with | some o => !m.testBit i && edgesIn n m o && freeB ops m i o L 0 | none => false) && schedOk ops L n kp l (m ||| 2 ^ i)
  | (1, i) :: l, m => (match L[i]? with | some o => !m.testBit i && edgesIn n m o && freeB ops m i o L 0 && keptB kp m i L 0 | none => false) && schedOk ops L n kp l (m ||| 2 ^ i)
  | (_, i) :: l, m => (Nat.blt i n && !m.testBit i) && onlyB n m i L 0 && schedOk ops L n kp l (m ||| 2 ^ i)

theorem mem_ready_iff {n : Nat} {L : List Oper} {listed : Array Bool} {m : Nat} (hn : L.length = n) (h : Rep n listed m) (hw : ∀ o ∈ L, o.after.toList.all (fun e => Nat.blt e.on n) = true) {i : Nat} {o : Oper} (ho : L[i]? = some o) :
    i ∈ Region.ready .any L.toArray listed ↔ (m.testBit i = false ∧ edgesIn n m o = true) := by
  have hi : i < n := by
    rw [← hn]
    exact (List.getElem?_eq_some_iff.1 ho).1
  simp only [Region.ready, List.mem_filter, List.mem_range, List.size_toArray, hn, hi, true_and, Bool.and_eq_true, Bool.not_eq_true']
  rw [h.getD hi]
  refine and_congr Iff.rfl ?_
  have e1 : (L.toArray)[i]? = some o := by simpa using ho
  simp only [e1, Option.map_some, Option.getD_some, edgesIn]
  rw [← Array.all_toList, List.all_eq_true, List.all_eq_true]
  refine forall_congr' fun e => forall_congr' fun he => ?_
  have hb := List.all_eq_true.1 (hw o (List.mem_of_getElem? ho)) e he
  have hlt : e.on < n := by simpa [Nat.blt_eq] using hb
  rw [bindsAny_eq, h.getD hlt]
  simp [Nat.blt_eq, hlt]

theorem free_of {n : Nat} {L : List Oper} {listed : Array Bool} {m : Nat} (hn : L.length = n) (h : Rep n listed m) {i : Nat} {oi : Oper} (hi : L[i]? = some oi)
    (hf : freeB L.toArray m i oi L 0 = true) : Region.free .any L.toArray listed i = true := by
  have key : ∀ (l : List Oper) (k : Nat), freeB L.toArray m i oi l k = true → ∀ j oj, l[j]? = some oj → m.testBit (k + j) = true ∨ k + j = i ∨ oj.after.toList.any (fun e => bindsAny e && Nat.beq e.on i) = true ∨ oi.apart L.toArray oj = true := by
    intro l
    induction l with
    | nil => intro k _ j oj hj; simp at hj
    | cons o l ih =>
      intro k hk j oj hj
      simp only [freeB, Bool.and_eq_true, Bool.or_eq_true] at hk
      cases j with
      | zero =>
        obtain rfl : o = oj := by simpa using hj
        rcases hk.1 with ((h1 | h1) | h1) | h1
        · exact .inl h1
        · exact .inr (.inl (by simpa using h1))
        · exact .inr (.inr (.inl h1))
        · exact .inr (.inr (.inr h1))
      | succ j =>
        have := ih (k + 1) hk.2 j oj (by simpa using hj)
        rwa [show k + 1 + j = k + (j + 1) from by omega] at this
  have e1 : (L.toArray)[i]? = some oi := by simpa using hi
  simp only [Region.free, e1, List.all_eq_true, List.mem_range, List.size_toArray]
  intro j hj
  have hjn : j < n := by omega
  have hoj : L[j]? = some (L[j]) := List.getElem?_eq_getElem hj
  have e2 : (L.toArray)[j]? = some (L[j]) := by simpa using hoj
  simp only [e2]
  rw [h.getD hjn]
  rcases key L 0 hf j _ hoj with h1 | h1 | h1 | h1
  · rw [Nat.zero_add] at h1; simp [h1]
  · rw [Nat.zero_add] at h1; simp [h1]
  · have : (L[j]).after.any (fun e => Region.binds .any e && e.on == i) = true := by
      rw [← Array.any_toList, List.any_eq_true]
      obtain ⟨e, he, hb⟩ := List.any_eq_true.1 h1
      refine ⟨e, he, ?_⟩
      rw [bindsAny_eq]
      simpa using hb
    simp [this]
  · simp [h1]

theorem only_of {n : Nat} {L : List Oper} {listed : Array Bool} {m : Nat} (hn : L.length = n) (h : Rep n listed m) (hw : ∀ o ∈ L, o.after.toList.all (fun e => Nat.blt e.on n) = true) {i : Nat}
    (hi : onlyB n m i L 0 = true) : ∀ j, j ∈ Region.ready .any L.toArray listed → j = i := by
  have key : ∀ (l : List Oper) (k : Nat), onlyB n m i l k = true → ∀ j oj, l[j]? = some oj → m.testBit (k + j) = true ∨ (edgesIn n m oj = Nat.beq (k + j) i) := by
    intro l
    induction l with
    | nil => intro k _ j oj hj; simp at hj
    | cons o l ih =>
      intro k hk j oj hj
      simp only [onlyB, Bool.and_eq_true, Bool.or_eq_true] at hk
      cases j with
      | zero =>
        obtain rfl : o = oj := by simpa using hj
        exact hk.1.imp id (fun h => by simpa using h)
      | succ j =>
        have := ih (k + 1) hk.2 j oj (by simpa using hj)
        rwa [show k + 1 + j = k + (j + 1) from by omega] at this
  intro j hj
  have hjs : j < L.length := by
    simp only [Region.ready, List.mem_filter, List.mem_range, List.size_toArray] at hj
    exact hj.1
  have hoj : L[j]? = some (L[j]) := List.getElem?_eq_getElem hjs
  have hr := (mem_ready_iff hn h hw hoj).1 hj
  rcases key L 0 hi j _ hoj with h1 | h1
  · rw [Nat.zero_add] at h1; rw [h1] at hr; cases hr.1
  · rw [Nat.zero_add, hr.2] at h1
    simpa using h1.symm

theorem none_of {n : Nat} {L : List Oper} {listed : Array Bool} {m : Nat} (hn : L.length = n) (h : Rep n listed m) (hm : noneB m n = true) : Region.ready .any L.toArray listed = [] := by
  have key : ∀ k, noneB m k = true → ∀ j, j < k → m.testBit j = true := by
    intro k
    induction k with
    | zero => intro _ j hj; omega
    | succ k ih =>
      intro hk j hj
      simp only [noneB, Bool.and_eq_true] at hk
      by_cases e : j = k
      · subst e; exact hk.1
      · exact ih hk.2 j (by omega)
  simp only [Region.ready, List.filter_eq_nil_iff, List.mem_range, List.size_toArray]
  intro j hj
  rw [h.getD (by omega), key n hm j (by omega)]
  simp

theorem kept_of {n : Nat} {L : List Oper} {listed : Array Bool} {m kp : Nat} (hn : L.length = n) (h : Rep n listed m) {i : Nat}
    (hf : keptB kp m i L 0 = true) (j : Nat) (oj : Oper) (hj : L[j]? = some oj) (hji : j ≠ i) (hun : listed.getD j true = false) (hno : ∀ e ∈ oj.after, Region.binds .any e = true → e.on ≠ i) : kp.testBit j = true := by
  have key : ∀ (l : List Oper) (k : Nat), keptB kp m i l k = true → ∀ j oj, l[j]? = some oj → m.testBit (k + j) = true ∨ k + j = i ∨ kp.testBit (k + j) = true ∨ oj.after.toList.any (fun e => bindsAny e && Nat.beq e.on i) = true := by
    intro l
    induction l with
    | nil => intro k _ j oj hj; simp at hj
    | cons o l ih =>
      intro k hk j oj hj
      simp only [keptB, Bool.and_eq_true, Bool.or_eq_true] at hk
      cases j with
      | zero =>
        obtain rfl : o = oj := by simpa using hj
        rcases hk.1 with ((h1 | h1) | h1) | h1
        · exact .inl h1
        · exact .inr (.inl (by simpa using h1))
        · exact .inr (.inr (.inl h1))
        · exact .inr (.inr (.inr h1))
      | succ j =>
        have := ih (k + 1) hk.2 j oj (by simpa using hj)
        rwa [show k + 1 + j = k + (j + 1) from by omega] at this
  have hjn : j < n := by rw [← hn]; exact (List.getElem?_eq_some_iff.1 hj).1
  rcases key L 0 hf j oj hj with h1 | h1 | h1 | h1
  · rw [Nat.zero_add] at h1; rw [h.getD hjn, h1] at hun; cases hun
  · rw [Nat.zero_add] at h1; exact absurd h1 hji
  · rwa [Nat.zero_add] at h1
  · obtain ⟨e, he, hb⟩ := List.any_eq_true.1 h1
    simp only [Bool.and_eq_true] at hb
    exact absurd (by simpa using hb.2) (hno e (Array.mem_toList_iff.1 he) (by rw [bindsAny_eq]; exact hb.1))

/-- Whatever order is picked; behind an operation of kp S holds. -/
def wpAnyN (P : Program) (md : Region.Mode) (ops : Array Oper) (Q : Exit → Act → World → Prop) (S : World → Prop) (kp : Nat) : Nat → Array Bool → Act → World → Prop
  | 0, listed, a, w => Region.ready md ops listed = [] ∧ Q .normal a w
  | fuel + 1, listed, a, w =>
    (Region.ready md ops listed = [] → Q .normal a w) ∧
    ∀ j ∈ Region.ready md ops listed, wpOp P ops Q j (fun a' w' => (kp.testBit j = true → S w') ∧ wpAnyN P md ops Q S kp fuel (listed.setIfInBounds j true) a' w') a w

theorem wpAny_of_N {kp : Nat} : ∀ (fuel : Nat) (listed : Array Bool) (a : Act) (w : World), wpAnyN P md ops Q S kp fuel listed a w → wpAny P md ops Q fuel listed a w
  | 0, _, _, _, h => h
  | fuel + 1, _, _, _, h => ⟨h.1, fun i hi => wpOp_mono (fun a' w' h' => wpAny_of_N fuel _ a' w' h'.2) (h.2 i hi)⟩

/-- An operation that yields the same in every world of R may be taken first, if R stays while it waits. -/
theorem wpAnyN_first {kp i : Nat} {oi : Oper} {v : Value} (R : World → Prop) (hi : ops[i]? = some oi) (hsel : ∀ (j : Nat) (o : Oper) cs b, ops[j]? = some o → o.op ≠ .select cs b)
    (hQ : ∀ c a w, Q (.panic c) (a.put oi.dst v) w → Q (.panic c) a w) (hSR : ∀ w, S w → R w) (hRS : kp.testBit i = true → ∀ w, R w → S w) :
    ∀ (fuel : Nat) (listed : Array Bool) (a : Act) (w : World),
      (∀ j oj, ops[j]? = some oj → j ≠ i → listed.getD j true = false → (∀ e ∈ oj.after, Region.binds md e = true → e.on ≠ i) → oi.apart ops oj = true) →
      (∀ j oj, ops[j]? = some oj → j ≠ i → listed.getD j true = false → (∀ e ∈ oj.after, Region.binds md e = true → e.on ≠ i) → kp.testBit j = true ∨ ∀ w, R w) →
      i ∈ Region.ready md ops listed → YieldsIf P ops R oi v a → R w →
      wpAnyN P md ops Q S kp fuel (listed.setIfInBounds i true) (a.put oi.dst v) w → wpAnyN P md ops Q S kp (fuel + 1) listed a w := by
  intro fuel
  induction fuel with
  | zero =>
    intro listed a w _ _ hr hy hR H
    refine ⟨fun h => absurd hr (by rw [h]; simp), fun j hj => ?_⟩
    by_cases hji : j = i
    · subst hji; exact hy.wpOp hi hR ⟨fun h => hRS h _ hR, H⟩
    · exact absurd (ready_mono hj hji) (by rw [H.1]; simp)
  | succ fuel ih =>
    intro listed a w hfree hkeep hr hy hR H
    refine ⟨fun h => absurd hr (by rw [h]; simp), fun j hj => ?_⟩
    by_cases hji : j = i
    · subst hji; exact hy.wpOp hi hR ⟨fun h => hRS h _ hR, H⟩
    · obtain ⟨hun, oj, hoj, hall⟩ := mem_ready.1 hj
      have hiun := (mem_ready.1 hr).1
      have hno : ∀ e ∈ oj.after, Region.binds md e = true → e.on ≠ i := fun e he hb heq => by
        have h1 := hall e he hb
        rw [heq] at h1
        rcases Nat.lt_or_ge i listed.size with h' | h'
        · simp [h'] at hiun h1; rw [hiun] at h1; cases h1
        · simp [Array.getElem?_eq_none h'] at h1
      have h2 := wpOp_putIf (S := R) hoj (hfree j oj hoj hji hun hno) (fun cs b => hsel i oi cs b hi) (fun cs b => hsel j oj cs b hoj) hQ hy (H.2 j (ready_mono hj hji))
      have later : ∀ k, (listed.setIfInBounds j true).getD k true = false → listed.getD k true = false := fun k hk => by
        by_cases e : j = k
        · subst e; exact hun
        · rwa [getD_set_ne true e] at hk
      refine wpOp_mono (fun a' w' h3 => ⟨h3.2.1, ih (listed.setIfInBounds j true) a' w' (fun k ok hok hki hu => hfree k ok hok hki (later k hu)) (fun k ok hok hki hu => hkeep k ok hok hki (later k hu))
        (ready_mono hr (Ne.symm hji)) h3.1 ?_ ?_⟩) h2
      · rcases hkeep j oj hoj hji hun hno with h4 | h4
        · exact hSR _ (h3.2.1 h4)
        · exact h4 _
      · rw [Array.setIfInBounds_comm _ _ hji]; exact h3.2.2

/-- It runs as wanted, in this order. -/
def wpS (P : Program) (ops : Array Oper) (Q : Exit → Act → World → Prop) (S : World → Prop) : List (Nat × Nat) → Act → World → Prop
  | [], a, w => Q .normal a w
  | (0, i) :: l, a, w => ∃ o v, ops[i]? = some o ∧ YieldsIf P ops (fun _ => True) o v a ∧ wpS P ops Q S l (a.put o.dst v) w
  | (1, i) :: l, a, w => S w ∧ ∃ o v, ops[i]? = some o ∧ YieldsIf P ops S o v a ∧ wpS P ops Q S l (a.put o.dst v) w
  | (2, i) :: l, a, w => wpOp P ops Q i (fun a' w' => S w' ∧ wpS P ops Q S l a' w') a w
  | (_, i) :: l, a, w => wpOp P ops Q i (fun a' w' => wpS P ops Q S l a' w') a w

def kpBits : List (Nat × Nat) → Nat
  | [] => 0
  | (1, i) :: l => 2 ^ i ||| kpBits l
  | (2, i) :: l => 2 ^ i ||| kpBits l
  | _ :: l => kpBits l
def kpOk (kp : Nat) : List (Nat × Nat) → Bool
  | [] => true
  | (1, _) :: l => kpOk kp l
  | (2, _) :: l => kpOk kp l
  | (_, i) :: l => !kp.testBit i && kpOk kp l

def onsOk (n : Nat) : List Oper → Bool
  | [] => true
  | o :: l => o.after.toList.all (fun e => Nat.blt e.on n) && onsOk n l
theorem onsOk_spec {n : Nat} : ∀ {L : List Oper}, onsOk n L = true → ∀ o ∈ L, o.after.toList.all (fun e => Nat.blt e.on n) = true
  | [], _, o, ho => by cases ho
  | x :: l, h, o, ho => by
    simp only [onsOk, Bool.and_eq_true] at h
    rcases List.mem_cons.1 ho with rfl | ho
    · exact h.1
    · exact onsOk_spec h.2 o ho

theorem wpAnyN_sched {L : List Oper} {n kp : Nat} (hn : L.length = n) (hw : ∀ o ∈ L, o.after.toList.all (fun e => Nat.blt e.on n) = true) (hs : Region.noSelect L.toArray = true)
    (hQ : ∀ d v c a w, Q (.panic c) (a.put d v) w → Q (.panic c) a w) :
    ∀ (l : List (Nat × Nat)) (listed : Array Bool) (m : Nat) (a : Act) (w : World), Rep n listed m → schedOk L.toArray L n kp l m = true → kpOk kp l = true → wpS P L.toArray Q S l a w → ∀ f, l.length ≤ f → wpAnyN P .any L.toArray Q S kp f listed a w
  | [], listed, m, a, w, hr, hc, _, h, f, _ => by
    have h0 := none_of hn hr (by simpa [schedOk] using hc)
    cases f with
    | zero => exact ⟨h0, h⟩
    | succ f => exact ⟨fun _ => h, by rw [h0]; simp⟩
  | (k, i) :: l, listed, m, a, w, hr, hc, hkp, h, f, hf => by
    obtain ⟨f, rfl⟩ : ∃ k, f = k + 1 := ⟨f - 1, by simp at hf; omega⟩
    have hf' : l.length ≤ f := by simpa using hf
    -- what writes
    have write : ∀ (G : Act → World → Prop), (∀ a' w', G a' w' → (kp.testBit i = true → S w') ∧ wpS P L.toArray Q S l a' w') → Nat.blt i n = true → m.testBit i = false → onlyB n m i L 0 = true → schedOk L.toArray L n kp l (m ||| 2 ^ i) = true → kpOk kp l = true →
        wpOp P L.toArray Q i G a w → wpAnyN P .any L.toArray Q S kp (f + 1) listed a w := by
      intro G hG h0 h1 h2 h3 hkl hop
      have honly := only_of hn hr hw h2
      have hin : i < L.length := by rw [hn]; simpa [Nat.blt_eq] using h0
      have hoi : L[i]? = some (L[i]) := List.getElem?_eq_getElem hin
      have hmem : i ∈ Region.ready .any L.toArray listed := by
        refine (mem_ready_iff hn hr hw hoi).2 ⟨h1, ?_⟩
        have key : ∀ (l : List Oper) (k : Nat), onlyB n m i l k = true → ∀ j oj, l[j]? = some oj → m.testBit (k + j) = true ∨ (edgesIn n m oj = Nat.beq (k + j) i) := by
          intro l
          induction l with
          | nil => intro k _ j oj hj; simp at hj
          | cons o l ih =>
            intro k hk j oj hj
            simp only [onlyB, Bool.and_eq_true, Bool.or_eq_true] at hk
            cases j with
            | zero =>
              obtain rfl : o = oj := by simpa using hj
              exact hk.1.imp id (fun h => by simpa using h)
            | succ j =>
              have := ih (k + 1) hk.2 j oj (by simpa using hj)
              rwa [show k + 1 + j = k + (j + 1) from by omega] at this
        rcases key L 0 h2 i _ hoi with h4 | h4
        · rw [Nat.zero_add] at h4; rw [h4] at h1; cases h1
        · rw [Nat.zero_add] at h4; simpa using h4
      refine ⟨fun h => absurd hmem (by rw [h]; simp), fun j hj => ?_⟩
      obtain rfl := honly j hj
      exact wpOp_mono (fun a' w' hg => ⟨(hG a' w' hg).1, wpAnyN_sched hn hw hs hQ l _ _ a' w' (hr.set j) h3 hkl (hG a' w' hg).2 f hf'⟩) hop
    match k, hc, hkp, h with
    | 0, hc, hkp, h =>
      obtain ⟨o, v, ho, hy, h⟩ := h
      have ho' : L[i]? = some o := by simpa using ho
      simp only [schedOk, ho', Bool.and_eq_true, Bool.not_eq_true'] at hc
      obtain ⟨⟨⟨h0, h1⟩, h2⟩, h3⟩ := hc
      simp only [kpOk, Bool.and_eq_true, Bool.not_eq_true'] at hkp
      exact wpAnyN_first (fun _ => True) ho (Region.noSelect_spec hs) (fun c a w => hQ _ _ c a w) (fun _ _ => trivial) (fun h => (by rw [hkp.1] at h; cases h)) f listed a w (Region.free_spec ho (free_of hn hr ho' h2)) (fun _ _ _ _ _ _ => .inr fun _ => trivial)
        ((mem_ready_iff hn hr hw ho').2 ⟨h0, h1⟩) hy trivial (wpAnyN_sched hn hw hs hQ l _ _ _ w (hr.set i) h3 hkp.2 h f hf')
    | 1, hc, hkp, h =>
      obtain ⟨hS, o, v, ho, hy, h⟩ := h
      have ho' : L[i]? = some o := by simpa using ho
      simp only [schedOk, ho', Bool.and_eq_true, Bool.not_eq_true'] at hc
      obtain ⟨⟨⟨⟨h0, h1⟩, h2⟩, h4⟩, h3⟩ := hc
      simp only [kpOk] at hkp
      exact wpAnyN_first S ho (Region.noSelect_spec hs) (fun c a w => hQ _ _ c a w) (fun _ h => h) (fun _ _ h => h) f listed a w (Region.free_spec ho (free_of hn hr ho' h2))
        (fun j oj hj hji hun hno => .inl (kept_of hn hr h4 j oj (by simpa using hj) hji hun hno))
        ((mem_ready_iff hn hr hw ho').2 ⟨h0, h1⟩) hy hS (wpAnyN_sched hn hw hs hQ l _ _ _ w (hr.set i) h3 hkp h f hf')
    | 2, hc, hkp, h =>
      simp only [schedOk, Bool.and_eq_true, Bool.not_eq_true'] at hc
      exact write _ (fun a' w' hg => ⟨fun _ => hg.1, hg.2⟩) hc.1.1.1 hc.1.1.2 hc.1.2 hc.2 (by simpa [kpOk] using hkp) h
    | k + 3, hc, hkp, h =>
      simp only [schedOk, Bool.and_eq_true, Bool.not_eq_true'] at hc
      simp only [kpOk, Bool.and_eq_true, Bool.not_eq_true'] at hkp
      exact write _ (fun a' w' hg => ⟨fun hb => (by rw [hkp.1] at hb; cases hb), hg⟩) hc.1.1.1 hc.1.1.2 hc.1.2 hc.2 hkp.2 h

theorem wp_region_sched {id : Nat} {a : Act} {w : World} {L : List Oper} (S : World → Prop) (l : List (Nat × Nat)) (n : Nat) (hm : P.follows .mixedOrders = true)
    (hc : (Nat.beq L.length n && onsOk n L && Region.noSelect L.toArray && Nat.ble l.length n && kpOk (kpBits l) l && schedOk L.toArray L n (kpBits l) l 0) = true) (hQ : ∀ d v c a w, Q (.panic c) (a.put d v) w → Q (.panic c) a w)
    (h : wpS P L.toArray Q S l a w.drew) : (Code.region id L.toArray true).wp P Q a w := by
  simp only [Bool.and_eq_true] at hc
  obtain ⟨⟨⟨⟨⟨h1, h2⟩, h3⟩, h4⟩, h6⟩, h5⟩ := hc
  have hn : L.length = n := by simpa using h1
  refine wp_region_any hm (wpAny_of_N (S := S) (kp := kpBits l) _ _ _ _ ?_)
  rw [show L.toArray.size = n from by simpa using hn]
  exact wpAnyN_sched hn (onsOk_spec h2) h3 hQ l _ 0 a w.drew (Rep.zero n) h5 h6 h _ (by simpa [Nat.ble_eq] using h4)

theorem wpOps_sched {a : Act} {w : World} {L : List Oper} (S : World → Prop) (l : List (Nat × Nat)) (n : Nat) (hm : P.follows .mixedOrders = true)
    (hc : (Nat.beq L.length n && onsOk n L && Region.noSelect L.toArray && Nat.ble l.length n && kpOk (kpBits l) l && schedOk L.toArray L n (kpBits l) l 0) = true) (hQ : ∀ d v c a w, Q (.panic c) (a.put d v) w → Q (.panic c) a w)
    (h : wpS P L.toArray Q S l a w) (t : Nat) : wpOps P L.toArray Q (Region.schedule (P.follows .mixedOrders) L.toArray t) a w := by
  simp only [Bool.and_eq_true] at hc
  obtain ⟨⟨⟨⟨⟨h1, h2⟩, h3⟩, h4⟩, h6⟩, h5⟩ := hc
  have hn : L.length = n := by simpa using h1
  simp only [Region.schedule, hm, Bool.true_or, if_true]
  refine wpAny_sound L.toArray.size t _ a _ (wpAny_of_N (S := S) (kp := kpBits l) _ _ _ _ ?_)
  rw [show L.toArray.size = n from by simpa using hn]
  exact wpAnyN_sched hn (onsOk_spec h2) h3 hQ l _ 0 a w (Rep.zero n) h5 h6 h _ (by simpa [Nat.ble_eq] using h4)

variable {l : List (Nat × Nat)} {i : Nat} {o : Oper} {a : Act} {w : World}

theorem wpS_p {L : List Oper} {v : Value} (ho : L[i]? = some o) (hw : Region.wanted o (yielded L.toArray a.tmps) = true) (hv : ∀ w, True → (execOp a.eval o).run P w = .ok (.value v) w)
    (h : wpS P L.toArray Q S l (a.put o.dst v) w) : wpS P L.toArray Q S ((0, i) :: l) a w := ⟨o, v, by simpa using ho, .inl ⟨hw, hv⟩, h⟩
theorem wpS_q {L : List Oper} {v : Value} (ho : L[i]? = some o) (hw : Region.wanted o (yielded L.toArray a.tmps) = true) (hS : S w) (hv : ∀ w, S w → (execOp a.eval o).run P w = .ok (.value v) w)
    (h : wpS P L.toArray Q S l (a.put o.dst v) w) : wpS P L.toArray Q S ((1, i) :: l) a w := ⟨hS, o, v, by simpa using ho, .inl ⟨hw, hv⟩, h⟩
theorem wpS_no {L : List Oper} (ho : L[i]? = some o) (hw : Region.wanted o (yielded L.toArray a.tmps) = false)
    (h : wpS P L.toArray Q S l (a.put o.dst undef) w) : wpS P L.toArray Q S ((0, i) :: l) a w := ⟨o, undef, by simpa using ho, .inr ⟨hw, rfl⟩, h⟩
theorem wpS_no1 {L : List Oper} (ho : L[i]? = some o) (hw : Region.wanted o (yielded L.toArray a.tmps) = false) (hS : S w)
    (h : wpS P L.toArray Q S l (a.put o.dst undef) w) : wpS P L.toArray Q S ((1, i) :: l) a w := ⟨hS, o, undef, by simpa using ho, .inr ⟨hw, rfl⟩, h⟩
theorem wpS_e {L : List Oper} (ho : L[i]? = some o)
    (h : ∀ K : Act → World → Prop, Shut (∀ a w, S w → (S w → wpS P L.toArray Q S l a w) → K a w) → if Region.wanted o (yielded L.toArray a.tmps) = true then Oper.wp P o a w K Q else K (a.put o.dst undef) w) :
    wpS P L.toArray Q S ((2, i) :: l) a w := wpOp_step (by simpa using ho) (fun K hK => h K (fun a w hS hW => hK a w ⟨hS, hW hS⟩))
theorem wpS_f {L : List Oper} (ho : L[i]? = some o)
    (h : ∀ K : Act → World → Prop, Shut (∀ a w, wpS P L.toArray Q S l a w → K a w) → if Region.wanted o (yielded L.toArray a.tmps) = true then Oper.wp P o a w K Q else K (a.put o.dst undef) w) :
    wpS P L.toArray Q S ((3, i) :: l) a w := wpOp_step (by simpa using ho) (fun K hK => h K (fun a w hW => hK a w hW))
theorem wpS_have (hS : S w) (h : S w → wpS P ops Q S l a w) : wpS P ops Q S l a w := h hS
theorem wpS_nil (h : Q .normal a w) : wpS P ops Q S [] a w := h
end
end Go.Proofs.YtcopemgkjbaaeaaDoor
