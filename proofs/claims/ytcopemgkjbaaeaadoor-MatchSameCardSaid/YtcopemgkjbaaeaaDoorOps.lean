/-
  The engine's lemmas, one for each kind of operation.
-/
import Derived.Test.YtcopemgkjbaaeaaDoorEng
namespace Go.Proofs.YtcopemgkjbaaeaaDoor
set_option linter.all false
open Go.RowKit

section
variable {P : Program} {n : FrC} {Q : SQ} {m : SM} {w : World} {c c2 : Code} {L l : List Oper} {K : SM → World → Prop} {S : World → Prop}

/-! ### entry and results -/
def numb : List Value → Nat → SM
  | [], _ => []
  | v :: l, i => (i, v) :: numb l (i + 1)
theorem numb_look : ∀ (l : List Value) (k i : Nat) (v : Value), look (numb l k) i = some v → k ≤ i ∧ l[i - k]? = some v
  | [], k, i, v, h => by simp [numb, look] at h
  | u :: l, k, i, v, h => by
    simp only [numb, look] at h
    cases hk : Nat.beq k mkK
    case true =>
      rw [hk] at h
      obtain ⟨h1, h2⟩ := numb_look l (k + 1) i v h
      refine ⟨by omega, ?_⟩
      rw [show i - k = (i - (k + 1)) + 1 from by omega]
      simpa using h2
    rw [hk, cond_false] at h
    by_cases e : k = i
    · subst e; simp only [Nat.beq_refl, cond_true] at h; simp [← h]
    · rw [beq_no e] at h
      obtain ⟨h1, h2⟩ := numb_look l (k + 1) i v h
      refine ⟨by omega, ?_⟩
      rw [show i - k = (i - (k + 1)) + 1 from by omega]
      simpa using h2

def Res (P : Program) (fn : Func) (m : SM) (w : World) (v : Value) : Prop := ∀ tmps : Array Value, (∀ i u, look m i = some u → tmps[i]? = some u) → (results fn tmps).run P w = .ok v w
/-- The blocks of the marks are shut, one behind the other; then K. -/
def ShutAll (P : Program) (K : World → Prop) : List Nat → World → Prop
  | [], w => K w
  | D :: ds, w => ∃ w', (Instr.takeDeferred D).run P w = .ok [] w' ∧ ShutAll P K ds w'
def retQ (P : Program) (fn : Func) (R : Ending → World → Prop) : SQ
  | .ret, m, w => ShutAll P (fun w => ∃ v, Res P fn m w v ∧ R (.returned v) w) (marksOf m) w
  | .normal, m, w => ShutAll P (fun w => ∃ v, Res P fn m w v ∧ R (.returned v) w) (marksOf m) w
  | _, _, _ => False
theorem leaves_of {k : Nat} {ro : Option Nat} {fn : Func} {R : Ending → World → Prop} {m : SM} {a : Act} (hs : Slots k a m) : ∀ (ds : List Nat) (w : World), ShutAll P (fun w => ∃ v, Res P fn m w v ∧ R (.returned v) w) ds w →
    LeavesInM (fen ro) 0 P fn a.tmps R (ds.map mark_) .returning w
  | [], w, ⟨v, hr, hR⟩ => ⟨v, hr _ hs.get, hR⟩
  | D :: ds, w, ⟨w', h1, h2⟩ => ⟨by simp, .inl ⟨D, w', rfl, h1, leaves_of hs ds w' h2⟩⟩

theorem W_enter {k : Nat} {f : FuncId} {fn : Func} {args : List Value} {R : Ending → World → Prop} (hf : P.funcs[f]? = some fn) (hb : fn.body = some c) (hn : fn.ntmps = k) (hle : (Nat.ble args.length k && Nat.ble k mkK) = true)
    (h : W P ⟨k, none⟩ c (retQ P fn R) (numb args 0) w) (hm : marksOf (numb args 0) = [] := by rfl) : Calls P f args.toArray w R := by
  simp only [Bool.and_eq_true] at hle
  obtain ⟨hle, hsm⟩ := hle
  have hle' : args.length ≤ k := by simpa [Nat.ble_eq] using hle
  have hro : (fen none).round = none := rfl
  refine (callsIn_fen (ro := none) (n := 0)).1 (callsIn_of_wp_marks hf hb trivial (wpIn_mono (h _ ⟨by rw [hm]; rfl, ?_, by simpa [Nat.ble_eq] using hsm, fun i v hv => ?_⟩) fun e a w q => ?_))
  · rw [hn]; simp; omega
  · obtain ⟨_, h2⟩ := numb_look args 0 i v hv
    have hi : i < args.length := (List.getElem?_eq_some_iff.1 (by simpa using h2)).1
    rw [Array.getElem?_append_left (by simpa using hi)]
    simpa using h2
  · cases e with
    | normal => obtain ⟨m', hs, hq⟩ := q; simp only [bodyPostM]; rw [hs.defers]; exact leaves_of hs _ _ hq
    | ret => obtain ⟨m', hs, hq⟩ := q; simp only [bodyPostM]; rw [hs.defers]; exact leaves_of hs _ _ hq
    | panic ch => exact q.elim
    | outgrown => exact q.elim
    | exit id => obtain ⟨m', hs, hq⟩ := q; exact hq.elim
    | goto l => obtain ⟨m', hs, hq⟩ := q; exact hq.elim

def rvS (tmps : Array Value) : ResultVar → Sem Value
  | .tmp t => pure (tmps.getD t undef)
  | .cell a t => do loadVar t (← asAddr (tmps.getD a undef))
def RV (P : Program) (m : SM) (w : World) (r : ResultVar) (v : Value) : Prop := ∀ tmps : Array Value, (∀ i u, look m i = some u → tmps[i]? = some u) → (rvS tmps r).run P w = .ok v w
theorem results_eq (fn : Func) (tmps : Array Value) : results fn tmps = (do let vs ← fn.results.mapM (rvS tmps); pure (if h : vs.size = 1 then vs[0] else .tuple vs)) := by
  unfold results
  congr 1
theorem rv_tmp {t : Tmp} {v : Value} (h : look m t = some v) : RV P m w (.tmp t) v := fun tmps ht => by
  have := ht t v h
  simp [rvS, Array.getD_eq_getD_getElem?, this]
theorem rv_cell {a : Tmp} {t : TypeId} {ad : Addr} {v : Value} (h : look m a = some (.pointer (some ad))) (hv : (loadVar t ad).run P w = .ok v w) : RV P m w (.cell a t) v := fun tmps ht => by
  have := ht a _ h
  simp [rvS, Array.getD_eq_getD_getElem?, this, asAddr, hv]
theorem res0 {fn : Func} (h : fn.results = #[]) : Res P fn m w (.tuple #[]) := fun tmps _ => by simp [results, h]
theorem res1 {fn : Func} {r : ResultVar} {v : Value} (h : fn.results = #[r]) (h1 : RV P m w r v) : Res P fn m w v := fun tmps ht => by
  rw [results_eq, h]; simp [h1 tmps ht]
theorem res2 {fn : Func} {r1 r2 : ResultVar} {v1 v2 : Value} (h : fn.results = #[r1, r2]) (h1 : RV P m w r1 v1) (h2 : RV P m w r2 v2) : Res P fn m w (.tuple #[v1, v2]) := fun tmps ht => by
  rw [results_eq, h]; simp [h1 tmps ht, h2 tmps ht]
theorem res3 {fn : Func} {r1 r2 r3 : ResultVar} {v1 v2 v3 : Value} (h : fn.results = #[r1, r2, r3]) (h1 : RV P m w r1 v1) (h2 : RV P m w r2 v2) (h3 : RV P m w r3 v3) : Res P fn m w (.tuple #[v1, v2, v3]) := fun tmps ht => by
  rw [results_eq, h]; simp [h1 tmps ht, h2 tmps ht, h3 tmps ht]
theorem res4 {fn : Func} {r1 r2 r3 r4 : ResultVar} {v1 v2 v3 v4 : Value} (h : fn.results = #[r1, r2, r3, r4]) (h1 : RV P m w r1 v1) (h2 : RV P m w r2 v2) (h3 : RV P m w r3 v3) (h4 : RV P m w r4 v4) : Res P fn m w (.tuple #[v1, v2, v3, v4]) := fun tmps ht => by
  rw [results_eq, h]; simp [h1 tmps ht, h2 tmps ht, h3 tmps ht, h4 tmps ht]

/-! ### steps -/
/-- The operation yields v and does nothing else. -/
def Ev (P : Program) (m : SM) (o : Oper) (w : World) (v : Value) : Prop := ∀ ρ : Operand → Value, Agrees m ρ → (execOp ρ o).run P w = .ok (.value v) w

theorem RP_nil (h : K m w) : RP P n L K [] m w := fun _ ha => ⟨m, ha, h⟩
theorem RP_q {d : Nat} {op : Op} {ty : TypeId} {pos : String} {af : Array Edge} {v : Value} (hd : Nat.blt d n.k = true) (hev : Ev P m ⟨some d, op, ty, pos, af, none⟩ w v)
    (h : RP P n L K l ((d, v) :: m) w) (hnd : isDefer op = false := by rfl) : RP P n L K (⟨some d, op, ty, pos, af, none⟩ :: l) m w := fun a ha => by
  unfold wpListIn
  rw [if_pos (by rfl)]
  refine opIn hnd ?_
  unfold Oper.wp
  rw [hev _ ha.agrees]
  exact h _ (ha.put hd v)
def gv (L : List Oper) (m : SM) (j : Nat) : Option Value := match L[j]? with
  | some o => (match o.dst with | some d => look m d | none => none)
  | none => none
theorem gv_yielded {a : Act} (ha : Slots n.k a m) {j : Nat} {b : Bool} (h : gv L m j = some (.bool b)) : yielded L.toArray a.tmps j = some b := by
  unfold gv at h
  unfold yielded
  rw [show (L.toArray)[j]? = L[j]? from by simp]
  cases hj : L[j]? with
  | none => simp [hj] at h
  | some o =>
    simp only [hj] at h
    cases hd : o.dst with
    | none => simp [hd] at h
    | some d =>
      simp only [hd] at h
      simp [hd, ha.get d _ h]
theorem RP_g {d j : Nat} {op : Op} {ty : TypeId} {pos : String} {af : Array Edge} {v : Value} {b : Bool} (hd : Nat.blt d n.k = true) (hg : gv L m j = some (.bool b)) (hev : Ev P m ⟨some d, op, ty, pos, af, some (j, b)⟩ w v)
    (h : RP P n L K l ((d, v) :: m) w) (hnd : isDefer op = false := by rfl) : RP P n L K (⟨some d, op, ty, pos, af, some (j, b)⟩ :: l) m w := fun a ha => by
  unfold wpListIn
  rw [if_pos (by simp [Region.wanted, gv_yielded ha hg])]
  refine opIn hnd ?_
  unfold Oper.wp
  rw [hev _ ha.agrees]
  exact h _ (ha.put hd v)
theorem RP_no {d j : Nat} {op : Op} {ty : TypeId} {pos : String} {af : Array Edge} {b b' : Bool} (hd : Nat.blt d n.k = true) (hg : gv L m j = some (.bool b)) (hne : b ≠ b')
    (h : RP P n L K l ((d, undef) :: m) w) : RP P n L K (⟨some d, op, ty, pos, af, some (j, b')⟩ :: l) m w := fun a ha => by
  unfold wpListIn
  rw [if_neg (by simp [Region.wanted, gv_yielded ha hg, hne])]
  exact ⟨fun _ _ => trivial, h _ (ha.put hd undef)⟩
theorem RP_pick (r : List Nat) {m' : SM} (hr : pick m r = some m') (h : RP P n L K l m' w) : RP P n L K l m w := fun a ha => h a (ha.pick hr)

theorem RS_nil (h : K m w) : RS P n L K S [] m w := fun _ ha => ⟨m, ha, h⟩
theorem RS_p {k : List (Nat × Nat)} {i d : Nat} {op : Op} {ty : TypeId} {pos : String} {af : Array Edge} {v : Value} (hi : L[i]? = some ⟨some d, op, ty, pos, af, none⟩) (hd : Nat.blt d n.k = true)
    (hev : ∀ w, Ev P m ⟨some d, op, ty, pos, af, none⟩ w v) (h : RS P n L K S k ((d, v) :: m) w) : RS P n L K S ((0, i) :: k) m w := fun a ha =>
  wpS_p hi rfl (fun w _ => hev w _ ha.agrees) (h _ (ha.put hd v))
theorem RS_q {k : List (Nat × Nat)} {i d : Nat} {op : Op} {ty : TypeId} {pos : String} {af : Array Edge} {v : Value} (hi : L[i]? = some ⟨some d, op, ty, pos, af, none⟩) (hd : Nat.blt d n.k = true) (hS : S w)
    (hev : ∀ w, S w → Ev P m ⟨some d, op, ty, pos, af, none⟩ w v) (h : RS P n L K S k ((d, v) :: m) w) : RS P n L K S ((1, i) :: k) m w := fun a ha =>
  wpS_q hi rfl hS (fun w hw => hev w hw _ ha.agrees) (h _ (ha.put hd v))
theorem RS_gp {k : List (Nat × Nat)} {i d j : Nat} {op : Op} {ty : TypeId} {pos : String} {af : Array Edge} {v : Value} {b : Bool} (hi : L[i]? = some ⟨some d, op, ty, pos, af, some (j, b)⟩) (hd : Nat.blt d n.k = true) (hg : gv L m j = some (.bool b))
    (hev : ∀ w, Ev P m ⟨some d, op, ty, pos, af, some (j, b)⟩ w v) (h : RS P n L K S k ((d, v) :: m) w) : RS P n L K S ((0, i) :: k) m w := fun a ha =>
  wpS_p hi (by simp [Region.wanted, gv_yielded ha hg]) (fun w _ => hev w _ ha.agrees) (h _ (ha.put hd v))
theorem RS_gq {k : List (Nat × Nat)} {i d j : Nat} {op : Op} {ty : TypeId} {pos : String} {af : Array Edge} {v : Value} {b : Bool} (hi : L[i]? = some ⟨some d, op, ty, pos, af, some (j, b)⟩) (hd : Nat.blt d n.k = true) (hg : gv L m j = some (.bool b)) (hS : S w)
    (hev : ∀ w, S w → Ev P m ⟨some d, op, ty, pos, af, some (j, b)⟩ w v) (h : RS P n L K S k ((d, v) :: m) w) : RS P n L K S ((1, i) :: k) m w := fun a ha =>
  wpS_q hi (by simp [Region.wanted, gv_yielded ha hg]) hS (fun w hw => hev w hw _ ha.agrees) (h _ (ha.put hd v))
theorem RS_nop {k : List (Nat × Nat)} {i d j : Nat} {op : Op} {ty : TypeId} {pos : String} {af : Array Edge} {b b' : Bool} (hi : L[i]? = some ⟨some d, op, ty, pos, af, some (j, b')⟩) (hd : Nat.blt d n.k = true) (hg : gv L m j = some (.bool b)) (hne : b ≠ b')
    (h : RS P n L K S k ((d, undef) :: m) w) : RS P n L K S ((0, i) :: k) m w := fun a ha =>
  wpS_no hi (by simp [Region.wanted, gv_yielded ha hg, hne]) (h _ (ha.put hd undef))
theorem RS_noq {k : List (Nat × Nat)} {i d j : Nat} {op : Op} {ty : TypeId} {pos : String} {af : Array Edge} {b b' : Bool} (hi : L[i]? = some ⟨some d, op, ty, pos, af, some (j, b')⟩) (hd : Nat.blt d n.k = true) (hg : gv L m j = some (.bool b)) (hne : b ≠ b') (hS : S w)
    (h : RS P n L K S k ((d, undef) :: m) w) : RS P n L K S ((1, i) :: k) m w := fun a ha =>
  wpS_no1 hi (by simp [Region.wanted, gv_yielded ha hg, hne]) hS (h _ (ha.put hd undef))
/-- the slots behind it -/
def after_ (m : SM) (dst : Option Nat) (v : Option Value) : SM := match dst, v with
  | some d, some v => (d, v) :: m
  | some d, none => (d, undef) :: m
  | none, _ => m
theorem Slots.after_ {a : Act} (ha : Slots n.k a m) {dst : Option Nat} (hd : ∀ d, dst = some d → Nat.blt d n.k = true) (v : Option Value) : Slots n.k (a.put dst (v.getD undef)) (after_ m dst v) := by
  cases dst with
  | none => exact ha
  | some d => cases v <;> exact ha.put (hd d rfl) _

/-- an effect that is not wanted (its guard says no) -/
theorem RS_noe {k : List (Nat × Nat)} {i j e : Nat} {dst : Option Nat} {op : Op} {ty : TypeId} {pos : String} {af : Array Edge} {b b' : Bool} (hi : L[i]? = some ⟨dst, op, ty, pos, af, some (j, b')⟩) (hd : ∀ d, dst = some d → Nat.blt d n.k = true) (hg : gv L m j = some (.bool b)) (hne : b ≠ b')
    (hS : S w) (h : RS P n L K S k (after_ m dst none) w) : RS P n L K S ((e + 2, i) :: k) m w := fun a ha => by
  have hw : Region.wanted ⟨dst, op, ty, pos, af, some (j, b')⟩ (yielded L.toArray a.tmps) = false := by simp [Region.wanted, gv_yielded ha hg, hne]
  have hput : Slots n.k (a.put dst undef) (after_ m dst none) := ha.after_ hd none
  match e with
  | 0 => exact wpS_e hi fun Kk hK => by rw [hw]; exact hK.out _ _ hS fun _ => h _ hput
  | e + 1 => 
    refine wpOp_step (o := ⟨dst, op, ty, pos, af, some (j, b')⟩) (by simpa using hi) fun Kk hK => ?_
    rw [hw]; exact hK _ _ (h _ hput)

/-- What an operation that writes comes to: the value that it yields, and the world. -/
def Ef (P : Program) (m : SM) (o : Oper) (w : World) (G : Option Value → World → Prop) : Prop := ∀ ρ : Operand → Value, Agrees m ρ →
  (∃ v w', (execOp ρ o).run P w = .ok (.value v) w' ∧ G (some v) w') ∨ (∃ w', (execOp ρ o).run P w = .ok .skip w' ∧ G none w') ∨
  (∃ f args, (execOp ρ o).run P w = .ok (.enter f args) w ∧ Calls P f args w fun e w' => ∃ v, e = .returned v ∧ G (some v) w')
theorem Ef.wp {a : Act} (ha : Slots n.k a m) {o : Oper} {G : Option Value → World → Prop} (hef : Ef P m o w G) {Kk : Act → World → Prop} {Qx : Exit → Act → World → Prop}
    (hd : ∀ d, o.dst = some d → Nat.blt d n.k = true) (h : ∀ v w', G v w' → ∀ a', Slots n.k a' (after_ m o.dst v) → Kk a' w') : o.wp P a w Kk Qx := by
  unfold Oper.wp
  rcases hef _ ha.agrees with ⟨v, w', hr, hG⟩ | ⟨w', hr, hG⟩ | ⟨f, args, hr, hc⟩
  · rw [hr]; exact h _ _ hG _ (ha.after_ hd (some v))
  · rw [hr]; exact h _ _ hG _ (ha.after_ hd none)
  · rw [hr]
    refine hc.mono ?_
    rintro e w' ⟨v, rfl, hG⟩
    exact h _ _ hG _ (ha.after_ hd (some v))

theorem RP_e {dst : Option Nat} {op : Op} {ty : TypeId} {pos : String} {af : Array Edge} {G : Option Value → World → Prop} (hd : (match dst with | some d => Nat.blt d n.k | none => true) = true) (hef : Ef P m ⟨dst, op, ty, pos, af, none⟩ w G)
    (h : ∀ v w', G v w' → RP P n L K l (after_ m dst v) w') (hnd : isDefer op = false := by rfl) : RP P n L K (⟨dst, op, ty, pos, af, none⟩ :: l) m w := fun a ha => by
  unfold wpListIn
  rw [if_pos (by rfl)]
  exact opIn hnd (hef.wp ha (fun d e => by simp only at e; subst e; exact hd) fun v w' hG a' ha' => h v w' hG a' ha')
theorem RP_ge {dst : Option Nat} {j : Nat} {b : Bool} {op : Op} {ty : TypeId} {pos : String} {af : Array Edge} {G : Option Value → World → Prop} (hd : (match dst with | some d => Nat.blt d n.k | none => true) = true) (hg : gv L m j = some (.bool b)) (hef : Ef P m ⟨dst, op, ty, pos, af, some (j, b)⟩ w G)
    (h : ∀ v w', G v w' → RP P n L K l (after_ m dst v) w') (hnd : isDefer op = false := by rfl) : RP P n L K (⟨dst, op, ty, pos, af, some (j, b)⟩ :: l) m w := fun a ha => by
  unfold wpListIn
  rw [if_pos (by simp [Region.wanted, gv_yielded ha hg])]
  exact opIn hnd (hef.wp ha (fun d e => by simp only at e; subst e; exact hd) fun v w' hG a' ha' => h v w' hG a' ha')
/-- What an operation that calls yield comes to. -/
def EfY (P : Program) (m : SM) (o : Oper) (w : World) (G : Value → World → Prop) : Prop := ∀ ρ : Operand → Value, Agrees m ρ →
  ∃ l f tmps assign body, (execOp ρ o).run P w = .ok (.round l f tmps assign body) w ∧ RoundIn Fence.wide 0 P l f tmps assign body w fun e w' => ∃ v, e = .returned v ∧ G v w'
theorem RP_y {d : Nat} {op : Op} {ty : TypeId} {pos : String} {af : Array Edge} {G : Value → World → Prop} (hd : Nat.blt d n.k = true) (hef : EfY P m ⟨some d, op, ty, pos, af, none⟩ w G)
    (h : ∀ v w', G v w' → RP P n L K l ((d, v) :: m) w') (hnd : isDefer op = false := by rfl) : RP P n L K (⟨some d, op, ty, pos, af, none⟩ :: l) m w := fun a ha => by
  unfold wpListIn
  rw [if_pos (by rfl)]
  obtain ⟨l', f, tmps, assign, body, h1, h2⟩ := hef _ ha.agrees
  refine ⟨fun _ _ => trivial, ?_⟩
  rw [show (fen n.ro).round = n.ro from rfl, semAt_fen hnd, h1]
  refine ⟨fun h => (by cases h), RoundIn.mono (F := fen n.ro) h2 ?_⟩
  rintro e w' ⟨v, rfl, hG⟩
  exact h v w' hG _ (ha.put hd v)
theorem RP_gy {d j : Nat} {b : Bool} {op : Op} {ty : TypeId} {pos : String} {af : Array Edge} {G : Value → World → Prop} (hd : Nat.blt d n.k = true) (hg : gv L m j = some (.bool b)) (hef : EfY P m ⟨some d, op, ty, pos, af, some (j, b)⟩ w G)
    (h : ∀ v w', G v w' → RP P n L K l ((d, v) :: m) w') (hnd : isDefer op = false := by rfl) : RP P n L K (⟨some d, op, ty, pos, af, some (j, b)⟩ :: l) m w := fun a ha => by
  unfold wpListIn
  rw [if_pos (by simp [Region.wanted, gv_yielded ha hg])]
  obtain ⟨l', f, tmps, assign, body, h1, h2⟩ := hef _ ha.agrees
  refine ⟨fun _ _ => trivial, ?_⟩
  rw [show (fen n.ro).round = n.ro from rfl, semAt_fen hnd, h1]
  refine ⟨fun h => (by cases h), RoundIn.mono (F := fen n.ro) h2 ?_⟩
  rintro e w' ⟨v, rfl, hG⟩
  exact h v w' hG _ (ha.put hd v)
theorem RS_e {k : List (Nat × Nat)} {i : Nat} {dst : Option Nat} {op : Op} {ty : TypeId} {pos : String} {af : Array Edge} {G : Option Value → World → Prop} (hi : L[i]? = some ⟨dst, op, ty, pos, af, none⟩) (hd : (match dst with | some d => Nat.blt d n.k | none => true) = true)
    (hef : Ef P m ⟨dst, op, ty, pos, af, none⟩ w G) (h : ∀ v w', G v w' → S w' ∧ RS P n L K S k (after_ m dst v) w') : RS P n L K S ((2, i) :: k) m w := fun a ha =>
  wpS_e hi fun Kk hK => by
    rw [if_pos (by rfl)]
    exact hef.wp ha (fun d e => by simp only at e; subst e; exact hd) fun v w' hG a' ha' => hK.out _ _ (h v w' hG).1 fun _ => (h v w' hG).2 a' ha'
theorem RS_f {k : List (Nat × Nat)} {i : Nat} {dst : Option Nat} {op : Op} {ty : TypeId} {pos : String} {af : Array Edge} {G : Option Value → World → Prop} (hi : L[i]? = some ⟨dst, op, ty, pos, af, none⟩) (hd : (match dst with | some d => Nat.blt d n.k | none => true) = true)
    (hef : Ef P m ⟨dst, op, ty, pos, af, none⟩ w G) (h : ∀ v w', G v w' → RS P n L K S k (after_ m dst v) w') : RS P n L K S ((3, i) :: k) m w := fun a ha =>
  wpS_f hi fun Kk hK => by
    rw [if_pos (by rfl)]
    exact hef.wp ha (fun d e => by simp only at e; subst e; exact hd) fun v w' hG a' ha' => hK.out _ _ (h v w' hG a' ha')
theorem RS_ge {k : List (Nat × Nat)} {i j : Nat} {b : Bool} {dst : Option Nat} {op : Op} {ty : TypeId} {pos : String} {af : Array Edge} {G : Option Value → World → Prop} (hi : L[i]? = some ⟨dst, op, ty, pos, af, some (j, b)⟩) (hd : (match dst with | some d => Nat.blt d n.k | none => true) = true) (hg : gv L m j = some (.bool b))
    (hef : Ef P m ⟨dst, op, ty, pos, af, some (j, b)⟩ w G) (h : ∀ v w', G v w' → S w' ∧ RS P n L K S k (after_ m dst v) w') : RS P n L K S ((2, i) :: k) m w := fun a ha =>
  wpS_e hi fun Kk hK => by
    rw [if_pos (by simp [Region.wanted, gv_yielded ha hg])]
    exact hef.wp ha (fun d e => by simp only at e; subst e; exact hd) fun v w' hG a' ha' => hK.out _ _ (h v w' hG).1 fun _ => (h v w' hG).2 a' ha'
theorem RS_gf {k : List (Nat × Nat)} {i j : Nat} {b : Bool} {dst : Option Nat} {op : Op} {ty : TypeId} {pos : String} {af : Array Edge} {G : Option Value → World → Prop} (hi : L[i]? = some ⟨dst, op, ty, pos, af, some (j, b)⟩) (hd : (match dst with | some d => Nat.blt d n.k | none => true) = true) (hg : gv L m j = some (.bool b))
    (hef : Ef P m ⟨dst, op, ty, pos, af, some (j, b)⟩ w G) (h : ∀ v w', G v w' → RS P n L K S k (after_ m dst v) w') : RS P n L K S ((3, i) :: k) m w := fun a ha =>
  wpS_f hi fun Kk hK => by
    rw [if_pos (by simp [Region.wanted, gv_yielded ha hg])]
    exact hef.wp ha (fun d e => by simp only at e; subst e; exact hd) fun v w' hG a' ha' => hK.out _ _ (h v w' hG a' ha')
end
end Go.Proofs.YtcopemgkjbaaeaaDoor
