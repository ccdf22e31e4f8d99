/-
  Whole rows of operations that only look, in one step: what each yields is written down, the kernel reckons it.
-/
import Derived.Test.YtcopemgkjbaaeaaDoorOps
namespace Go.Proofs.YtcopemgkjbaaeaaDoor
set_option linter.all false
open Go.RowKit

/-- p: it yields v, whatever the world; l: it loads v from an address; s: it is passed over. -/
inductive Stp where
  | p (v : Value)
  | l (t : TypeId) (ptr v : Value)
  | no
def Stp.val : Stp → Value
  | .p v => v
  | .l _ _ v => v
  | .no => undef
def rho (m : SM) : Operand → Value := fun x => (opv m x).getD undef
def allKnown (m : SM) : List Operand → Bool
  | [] => true
  | x :: l => (opv m x).isSome && allKnown m l
def guardIs (L : List Oper) (m : SM) (o : Oper) (want : Bool) : Bool := match o.guard with
  | none => want
  | some (j, g) => (match gv L m j with | some (.bool b) => (b == g) == want | some (.tuple _) => !want | _ => false)
def notSelect : Op → Bool
  | .select .. => false
  | .defer _ => false
  | _ => true
def isLoad : Op → Bool
  | .load .. => true
  | _ => false
def bchk1 (n : Nat) (L : List Oper) (m : SM) (o : Oper) : Stp → Bool
  | .p _ => guardIs L m o true && allKnown m o.op.operands.toList && notSelect o.op
  | .l _ _ _ => guardIs L m o true && allKnown m o.op.operands.toList && isLoad o.op
  | .no => guardIs L m o false
def dstOk (n : Nat) (o : Oper) : Bool := match o.dst with | some d => Nat.blt d n | none => false
def upd1 (m : SM) (o : Oper) (s : Stp) : SM := match o.dst with | some d => (d, s.val) :: m | none => m
def bchk (n : Nat) (L : List Oper) : SM → List Oper → List Stp → Bool
  | _, [], [] => true
  | m, o :: l, s :: st => bchk1 n L m o s && dstOk n o && bchk n L (upd1 m o s) l st
  | _, _, _ => false
def updS : SM → List Oper → List Stp → SM
  | m, o :: l, s :: st => updS (upd1 m o s) l st
  | m, _, _ => m
/-- what the model says of an operation, and what it ought to say -/
def res1_ (P : Program) (w : World) (m : SM) (o : Oper) : Stp → Result Next ⊕ (TypeId × Value) ⊕ Unit
  | .p _ => .inl ((execOp (rho m) o).run P w)
  | .l _ _ _ => (match o.op with | .load t x => .inr (.inl (t, rho m x)) | _ => .inr (.inr ()))
  | .no => .inr (.inr ())
def exp1 (w : World) : Stp → Result Next ⊕ (TypeId × Value) ⊕ Unit
  | .p v => .inl (.ok (.value v) w)
  | .l t ptr _ => .inr (.inl (t, ptr))
  | .no => .inr (.inr ())
def resS (P : Program) (w : World) : SM → List Oper → List Stp → List (Result Next ⊕ (TypeId × Value) ⊕ Unit)
  | m, o :: l, s :: st => res1_ P w m o s :: resS P w (upd1 m o s) l st
  | _, _, _ => []
def expS (w : World) : List Stp → List (Result Next ⊕ (TypeId × Value) ⊕ Unit) := List.map (exp1 w)
def loads (P : Program) (w : World) : List Stp → Prop
  | [] => True
  | .l t ptr v :: st => (Instr.loadAt t ptr).run P w = .ok v w ∧ loads P w st
  | _ :: st => loads P w st

theorem rho_agrees {m : SM} {ρ : Operand → Value} (h : Agrees m ρ) : ∀ (l : List Operand), allKnown m l = true → ∀ x ∈ l, ρ x = rho m x
  | [], _, x, hx => by cases hx
  | y :: l, hk, x, hx => by
    simp only [allKnown, Bool.and_eq_true] at hk
    rcases List.mem_cons.1 hx with rfl | hx
    · obtain ⟨v, hv⟩ := Option.isSome_iff_exists.1 hk.1
      rw [h _ _ hv]; simp [rho, hv]
    · exact rho_agrees h l hk.2 x hx

section
variable {P : Program} {n : FrC} {m : SM} {w : World} {L : List Oper} {K : SM → World → Prop} {S : World → Prop} {o : Oper}

theorem exec_rho {ρ : Operand → Value} (h : Agrees m ρ) (hk : allKnown m o.op.operands.toList = true) (hs : notSelect o.op = true) : execOp ρ o = execOp (rho m) o :=
  execOp_congr o (fun cs b e => by rw [e] at hs; cases hs) fun x hx => rho_agrees h _ hk x (Array.mem_toList_iff.2 hx)

theorem gv_none {a : Act} (ha : Slots n.k a m) {j : Nat} {vs : Array Value} (h : gv L m j = some (.tuple vs)) : yielded L.toArray a.tmps j = none := by
  unfold gv at h
  unfold yielded
  rw [show (L.toArray)[j]? = L[j]? from by simp]
  cases hj : L[j]? with
  | none => simp
  | some o =>
    simp only [hj] at h
    cases hd : o.dst with
    | none => simp [hd] at h
    | some d =>
      simp only [hd] at h
      simp [hd, ha.get d _ h]
theorem guard_wanted {a : Act} (ha : Slots n.k a m) {b : Bool} (h : guardIs L m o b = true) : Region.wanted o (yielded L.toArray a.tmps) = b := by
  unfold guardIs at h
  unfold Region.wanted
  cases hg : o.guard with
  | none => simp [hg] at h; simp [h]
  | some jg =>
    obtain ⟨j, g⟩ := jg
    simp only [hg] at h
    cases hv : gv L m j with
    | none => simp [hv] at h
    | some v =>
      cases v <;> simp only [hv, Bool.false_eq_true] at h
      · rename_i b'
        simp only [gv_yielded ha hv]
        cases b <;> cases b' <;> cases g <;> simp_all
      · simp only [gv_none ha hv]
        cases b <;> simp_all

/-- one operation, in a world -/
theorem step1 {a : Act} (ha : Slots n.k a m) {s : Stp} (hb : bchk1 n.k L m o s = true) (hr : res1_ P w m o s = exp1 w s) (hl : loads P w [s]) :
    (Region.wanted o (yielded L.toArray a.tmps) = true ∧ (execOp a.eval o).run P w = .ok (.value s.val) w) ∨ (Region.wanted o (yielded L.toArray a.tmps) = false ∧ s.val = undef) := by
  cases s with
  | p v =>
    simp only [bchk1, Bool.and_eq_true] at hb
    simp only [res1_, exp1, Sum.inl.injEq] at hr
    exact .inl ⟨guard_wanted ha hb.1.1, by rw [exec_rho ha.agrees hb.1.2 hb.2]; exact hr⟩
  | l t ptr v =>
    simp only [bchk1, Bool.and_eq_true] at hb
    obtain ⟨⟨h1, h2⟩, h3⟩ := hb
    obtain ⟨dst, op, type, pos, after, guard⟩ := o
    cases op <;> simp only [isLoad, Bool.false_eq_true] at h3
    rename_i t' x
    simp only [res1_, exp1, Sum.inr.injEq, Sum.inl.injEq, Prod.mk.injEq] at hr
    refine .inl ⟨guard_wanted ha h1, ?_⟩
    rw [exec_rho ha.agrees h2 rfl]
    obtain ⟨rfl, hp⟩ := hr
    simp only [execOp, hp]
    have := hl.1
    simp [this, Stp.val]
  | no =>
    exact .inr ⟨guard_wanted ha hb, rfl⟩

theorem noDefer1 {a : Act} (ha : Slots n.k a m) {s : Stp} (hb : bchk1 n.k L m o s = true) (hw : Region.wanted o (yielded L.toArray a.tmps) = true) : isDefer o.op = false := by
  cases s with
  | p v =>
    simp only [bchk1, Bool.and_eq_true] at hb
    have h := hb.2
    cases ho : o.op <;> first | rfl | (rw [ho] at h; cases h)
  | l t ptr v =>
    simp only [bchk1, Bool.and_eq_true] at hb
    have h := hb.2
    cases ho : o.op <;> first | rfl | (rw [ho] at h; cases h)
  | no => rw [guard_wanted ha hb] at hw; cases hw

theorem loads_cons {s : Stp} {st : List Stp} (h : loads P w (s :: st)) : loads P w [s] ∧ loads P w st := by
  cases s <;> simp_all [loads]

theorem dst_put {a : Act} (ha : Slots n.k a m) {s : Stp} (hd : dstOk n.k o = true) : Slots n.k (a.put o.dst s.val) (upd1 m o s) := by
  unfold dstOk at hd
  unfold upd1
  cases h : o.dst with
  | none => simp [h] at hd
  | some d => simp only [h] at hd; exact ha.put hd _

theorem RP_seg0 : ∀ (seg l : List Oper) (st : List Stp) (m : SM), bchk n.k L m seg st = true → resS P w m seg st = expS w st → loads P w st → RP P n L K l (updS m seg st) w → RP P n L K (seg ++ l) m w
  | [], l, [], m, _, _, _, h => h
  | [], l, _ :: _, m, hb, _, _, _ => by simp [bchk] at hb
  | o :: seg, l, [], m, hb, _, _, _ => by simp [bchk] at hb
  | o :: seg, l, s :: st, m, hb, hr, hl, h => fun a ha => by
    simp only [bchk, Bool.and_eq_true] at hb
    simp only [resS, expS, List.map_cons, List.cons.injEq] at hr
    obtain ⟨hl1, hl2⟩ := loads_cons hl
    have ih := RP_seg0 seg l st (upd1 m o s) hb.2 hr.2 hl2 h _ (dst_put ha hb.1.2)
    show wpListIn (fen n.ro) 0 P L.toArray (regQ n.k K) (o :: (seg ++ l)) a w
    unfold wpListIn
    rcases step1 ha hb.1.1 hr.1 hl1 with ⟨hw, hx⟩ | ⟨hw, hu⟩
    · rw [if_pos hw]
      refine opIn (noDefer1 ha hb.1.1 hw) ?_
      unfold Oper.wp
      rw [hx]
      exact ih
    · rw [if_neg (by simp [hw])]
      rw [← hu]; exact ⟨fun _ _ => trivial, ih⟩

theorem RP_seg (k : Nat) (st : List Stp) (keys : List Nat) {l : List Oper} {m' : SM} (h1 : bchk n.k L m (l.take k) st = true) (h2 : ∀ w, resS P w m (l.take k) st = expS w st)
    (h3 : pick (updS m (l.take k) st) keys = some m') (hl : loads P w st) (h : RP P n L K (l.drop k) m' w) : RP P n L K l m w := by
  have := RP_seg0 (K := K) (l.take k) (l.drop k) st m h1 (h2 w) hl fun a ha => h a (ha.pick h3)
  rwa [List.take_append_drop] at this

def opsAt (L : List Oper) : List (Nat × Nat) → Option (List Oper)
  | [] => some []
  | (_, i) :: l => match L[i]?, opsAt L l with
    | some o, some r => some (o :: r)
    | _, _ => none
def kindsAre (c : Nat) : List (Nat × Nat) → Bool
  | [] => true
  | (k, _) :: l => Nat.beq k c && kindsAre c l

theorem some_getD {α : Type} {o : Option (List α)} (h : o.isSome = true) : o = some (o.getD []) := by cases o with | none => cases h | some x => rfl
theorem RS_seg0 : ∀ (sk k : List (Nat × Nat)) (seg : List Oper) (st : List Stp) (m : SM), kindsAre 1 sk = true → opsAt L sk = some seg → S w → bchk n.k L m seg st = true → (∀ w, resS P w m seg st = expS w st) → (∀ w, S w → loads P w st) →
    RS P n L K S k (updS m seg st) w → RS P n L K S (sk ++ k) m w
  | [], k, seg, st, m, _, ho, _, hb, _, _, h => by
    simp only [opsAt, Option.some.injEq] at ho; subst ho
    cases st with
    | nil => exact h
    | cons s st => simp [bchk] at hb
  | (c, i) :: sk, k, seg, st, m, hk, ho, hS, hb, hr, hl, h => fun a ha => by
    simp only [opsAt] at ho
    split at ho <;> simp only [Option.some.injEq, reduceCtorEq] at ho
    rename_i o r hi hr'
    subst ho
    cases st with
    | nil => simp [bchk] at hb
    | cons s st =>
      simp only [kindsAre, Bool.and_eq_true] at hk
      obtain rfl : c = 1 := Nat.eq_of_beq_eq_true hk.1
      simp only [bchk, Bool.and_eq_true] at hb
      have hr1 : ∀ w, res1_ P w m o s = exp1 w s := fun w => by have := hr w; simp only [resS, expS, List.map_cons, List.cons.injEq] at this; exact this.1
      have hr2 : ∀ w, resS P w (upd1 m o s) r st = expS w st := fun w => by have := hr w; simp only [resS, expS, List.map_cons, List.cons.injEq] at this; exact this.2
      have ih := RS_seg0 sk k r st (upd1 m o s) hk.2 hr' hS hb.2 hr2 (fun w hw => (loads_cons (hl w hw)).2) h _ (dst_put ha hb.1.2)
      show wpS P L.toArray (regQ n.k K) S ((1, i) :: (sk ++ k)) a w
      rcases Bool.eq_false_or_eq_true (Region.wanted o (yielded L.toArray a.tmps)) with hw | hw
      · refine wpS_q (v := s.val) hi hw hS (fun w' hw' => ?_) ih
        rcases step1 (w := w') ha hb.1.1 (hr1 w') (loads_cons (hl w' hw')).1 with ⟨_, hx⟩ | ⟨hf, _⟩
        · exact hx
        · rw [hw] at hf; cases hf
      · rcases step1 (w := w) ha hb.1.1 (hr1 w) (loads_cons (hl w hS)).1 with ⟨hf, _⟩ | ⟨_, hu⟩
        · rw [hw] at hf; cases hf
        · rw [hu] at ih; exact wpS_no1 hi hw hS ih
theorem RS_seg (k : Nat) (st : List Stp) (keys : List Nat) {q : List (Nat × Nat)} {m' : SM} (hk : kindsAre 1 (q.take k) = true) (ho : (opsAt L (q.take k)).isSome = true) (hS : S w) (h1 : bchk n.k L m ((opsAt L (q.take k)).getD []) st = true) (h2 : ∀ w, resS P w m ((opsAt L (q.take k)).getD []) st = expS w st)
    (h3 : pick (updS m ((opsAt L (q.take k)).getD []) st) keys = some m') (hl : ∀ w, S w → loads P w st) (h : RS P n L K S (q.drop k) m' w) : RS P n L K S q m w := by
  have := RS_seg0 (K := K) (q.take k) (q.drop k) ((opsAt L (q.take k)).getD []) st m hk (some_getD ho) hS h1 h2 hl fun a ha => h a (ha.pick h3)
  rwa [List.take_append_drop] at this

theorem RS_segP0 : ∀ (sk k : List (Nat × Nat)) (seg : List Oper) (st : List Stp) (m : SM), kindsAre 0 sk = true → opsAt L sk = some seg → bchk n.k L m seg st = true → (∀ w, resS P w m seg st = expS w st) → (∀ w, loads P w st) →
    RS P n L K S k (updS m seg st) w → RS P n L K S (sk ++ k) m w
  | [], k, seg, st, m, _, ho, hb, _, _, h => by
    simp only [opsAt, Option.some.injEq] at ho; subst ho
    cases st with
    | nil => exact h
    | cons s st => simp [bchk] at hb
  | (c, i) :: sk, k, seg, st, m, hk, ho, hb, hr, hl, h => fun a ha => by
    simp only [opsAt] at ho
    split at ho <;> simp only [Option.some.injEq, reduceCtorEq] at ho
    rename_i o r hi hr'
    subst ho
    cases st with
    | nil => simp [bchk] at hb
    | cons s st =>
      simp only [kindsAre, Bool.and_eq_true] at hk
      obtain rfl : c = 0 := Nat.eq_of_beq_eq_true hk.1
      simp only [bchk, Bool.and_eq_true] at hb
      have hr1 : ∀ w, res1_ P w m o s = exp1 w s := fun w => by have := hr w; simp only [resS, expS, List.map_cons, List.cons.injEq] at this; exact this.1
      have hr2 : ∀ w, resS P w (upd1 m o s) r st = expS w st := fun w => by have := hr w; simp only [resS, expS, List.map_cons, List.cons.injEq] at this; exact this.2
      have ih := RS_segP0 sk k r st (upd1 m o s) hk.2 hr' hb.2 hr2 (fun w => (loads_cons (hl w)).2) h _ (dst_put ha hb.1.2)
      show wpS P L.toArray (regQ n.k K) S ((0, i) :: (sk ++ k)) a w
      rcases Bool.eq_false_or_eq_true (Region.wanted o (yielded L.toArray a.tmps)) with hw | hw
      · refine wpS_p (v := s.val) hi hw (fun w' _ => ?_) ih
        rcases step1 (w := w') ha hb.1.1 (hr1 w') (loads_cons (hl w')).1 with ⟨_, hx⟩ | ⟨hf, _⟩
        · exact hx
        · rw [hw] at hf; cases hf
      · rcases step1 (w := w) ha hb.1.1 (hr1 w) (loads_cons (hl w)).1 with ⟨hf, _⟩ | ⟨_, hu⟩
        · rw [hw] at hf; cases hf
        · rw [hu] at ih; exact wpS_no hi hw ih
theorem RS_segP (k : Nat) (st : List Stp) (keys : List Nat) {q : List (Nat × Nat)} {m' : SM} (hk : kindsAre 0 (q.take k) = true) (ho : (opsAt L (q.take k)).isSome = true) (h1 : bchk n.k L m ((opsAt L (q.take k)).getD []) st = true) (h2 : ∀ w, resS P w m ((opsAt L (q.take k)).getD []) st = expS w st)
    (h3 : pick (updS m ((opsAt L (q.take k)).getD []) st) keys = some m') (hl : ∀ w, loads P w st) (h : RS P n L K S (q.drop k) m' w) : RS P n L K S q m w := by
  have := RS_segP0 (K := K) (q.take k) (q.drop k) ((opsAt L (q.take k)).getD []) st m hk (some_getD ho) h1 h2 hl fun a ha => h a (ha.pick h3)
  rwa [List.take_append_drop] at this
end
end Go.Proofs.YtcopemgkjbaaeaaDoor
