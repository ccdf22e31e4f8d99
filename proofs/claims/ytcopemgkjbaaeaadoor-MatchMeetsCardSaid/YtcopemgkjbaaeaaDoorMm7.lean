import Derived.Test.YtcopemgkjbaaeaaDoorMm6
import Derived.Test.YtcopemgkjbaaeaaDoorMm1
import Derived.Test.YtcopemgkjbaaeaaDoorMm5
namespace Go.Proofs.YtcopemgkjbaaeaaDoor
set_option linter.all false
open Go.RowKit
theorem lk_opt {o : Option Ent} {κ : Key} {R : List Ent} (ho : ∀ e, o = some e → e.k = κ) (hR : Srt R) (hk : ∀ e ∈ R, kl κ e.k = true) :
    Srt (o.toList ++ R) ∧ ∀ k, lk (o.toList ++ R) k = cond (κ == k) o (lk R k) := by
  cases o with
  | none =>
    refine ⟨hR, fun k => ?_⟩
    show lk R k = _
    by_cases e : κ = k
    · subst e; rw [lk_none fun x hx => (kl_ne (hk x hx)).symm]; simp
    · rw [show (κ == k) = false from by simpa using e]; rfl
  | some x =>
    have hx := ho x rfl
    refine ⟨Srt.cons.2 ⟨fun y hy => by rw [hx]; exact hk y hy, hR⟩, fun k => ?_⟩
    show lk (x :: R) k = _
    rw [lk_cons, hx]
theorem filterMap_opt {α β : Type} (g : α → Option β) (a : α) (l : List α) : (a :: l).filterMap g = (g a).toList ++ l.filterMap g := by
  rw [List.filterMap_cons]; cases g a <;> rfl
def pk (g : Ent × Ent → Option Ent) : Option Ent → Option Ent → Option Ent
  | none, none => none
  | some x, none => g (x, Ent.zero)
  | none, some y => g (Ent.zero, y)
  | some x, some y => g (x, y)
structure GOk (g : Ent × Ent → Option Ent) (A B : List Ent) : Prop where
  a : ∀ x ∈ A, ∀ e, g (x, Ent.zero) = some e → e.k = x.k
  b : ∀ y ∈ B, ∀ e, g (Ent.zero, y) = some e → e.k = y.k
  c : ∀ x ∈ A, ∀ y ∈ B, x.k = y.k → ∀ e, g (x, y) = some e → e.k = x.k
theorem GOk.sub {g : Ent × Ent → Option Ent} {A B A' B' : List Ent} (h : GOk g A B) (ha : ∀ x ∈ A', x ∈ A) (hb : ∀ x ∈ B', x ∈ B) : GOk g A' B' :=
  ⟨fun x hx => h.a x (ha x hx), fun y hy => h.b y (hb y hy), fun x hx y hy => h.c x (ha x hx) y (hb y hy)⟩
theorem pairs_fm (g : Ent × Ent → Option Ent) : ∀ (n : Nat) (A B : List Ent), A.length + B.length ≤ n → Srt A → Srt B → GOk g A B →
    Srt ((pairsL A B).filterMap g) ∧ (∀ κ : Key, (∀ x ∈ A, kl κ x.k = true) → (∀ y ∈ B, kl κ y.k = true) → ∀ e ∈ (pairsL A B).filterMap g, kl κ e.k = true) ∧
    ∀ k, lk ((pairsL A B).filterMap g) k = pk g (lk A k) (lk B k) := by
  intro n
  induction n with
  | zero =>
    intro A B hn _ _ _
    obtain rfl : A = [] := List.eq_nil_of_length_eq_zero (by omega)
    obtain rfl : B = [] := List.eq_nil_of_length_eq_zero (by omega)
    exact ⟨Srt.nil, (fun _ _ _ e he => by cases he), fun k => rfl⟩
  | succ n ih =>
    intro A B hn hA hB hg
    have step : ∀ (p : Ent × Ent) (A' B' : List Ent) (κ : Key), pairsL A B = p :: pairsL A' B' → A'.length + B'.length ≤ n → (∀ x ∈ A', x ∈ A) → (∀ x ∈ B', x ∈ B) → Srt A' → Srt B' →
        (∀ e, g p = some e → e.k = κ) → (∀ x ∈ A', kl κ x.k = true) → (∀ y ∈ B', kl κ y.k = true) → (∀ κ' : Key, (∀ x ∈ A, kl κ' x.k = true) → (∀ y ∈ B, kl κ' y.k = true) → kl κ' κ = true) →
        (pk g (lk A κ) (lk B κ) = g p) → (∀ k, κ ≠ k → pk g (lk A k) (lk B k) = pk g (lk A' k) (lk B' k)) →
        Srt ((pairsL A B).filterMap g) ∧ (∀ κ : Key, (∀ x ∈ A, kl κ x.k = true) → (∀ y ∈ B, kl κ y.k = true) → ∀ e ∈ (pairsL A B).filterMap g, kl κ e.k = true) ∧
        ∀ k, lk ((pairsL A B).filterMap g) k = pk g (lk A k) (lk B k) := by
      intro p A' B' κ hp hl ha hb hsa hsb hgk hka hkb hlow heq hne
      obtain ⟨i1, i2, i3⟩ := ih A' B' hl hsa hsb (hg.sub ha hb)
      have h1 := lk_opt hgk i1 (i2 κ hka hkb)
      rw [hp, filterMap_opt]
      refine ⟨h1.1, fun κ' h3 h4 e he => ?_, fun k => ?_⟩
      · rcases List.mem_append.1 he with he | he
        · have : g p = some e := by simpa using he
          rw [hgk e this]; exact hlow κ' h3 h4
        · exact i2 κ' (fun x hx => h3 x (ha x hx)) (fun y hy => h4 y (hb y hy)) e he
      · rw [h1.2]
        by_cases e : κ = k
        · subst e; rw [heq]; simp
        · rw [show (κ == k) = false from by simpa using e, cond_false, i3, hne k e]
    match A, B, hA, hB, hg, hn, step with
    | [], [], _, _, _, _, _ => exact ⟨Srt.nil, (fun _ _ _ e he => by cases he), fun k => rfl⟩
    | x :: A, [], hA, hB, hg, hn, step =>
      obtain ⟨h1, h2⟩ := Srt.cons.1 hA
      refine step (x, Ent.zero) A [] x.k (pairsL_a x A) (by simp at hn ⊢; omega) (fun _ h => List.mem_cons_of_mem _ h) (fun _ h => h) h2 hB (hg.a x List.mem_cons_self) h1 (fun _ h => by cases h) (fun κ' h3 _ => h3 x List.mem_cons_self) ?_ fun k hk => ?_
      · rw [lk_mem hA List.mem_cons_self]; rfl
      · rw [lk_cons, show (x.k == k) = false from by simpa using hk]; rfl
    | [], y :: B, hA, hB, hg, hn, step =>
      obtain ⟨h1, h2⟩ := Srt.cons.1 hB
      refine step (Ent.zero, y) [] B y.k (pairsL_b y B) (by simp at hn ⊢; omega) (fun _ h => h) (fun _ h => List.mem_cons_of_mem _ h) hA h2 (hg.b y List.mem_cons_self) (fun _ h => by cases h) h1 (fun κ' _ h4 => h4 y List.mem_cons_self) ?_ fun k hk => ?_
      · rw [lk_mem hB List.mem_cons_self]; rfl
      · rw [lk_cons y, show (y.k == k) = false from by simpa using hk]; rfl
    | x :: A, y :: B, hA, hB, hg, hn, step =>
      obtain ⟨h1, h2⟩ := Srt.cons.1 hA
      obtain ⟨h3, h4⟩ := Srt.cons.1 hB
      have hc := pairsL_c x y A B
      rw [klt_kl, klt_kl] at hc
      rcases kl_total x.k y.k with hxy | hxy | hxy
      · have hc' : pairsL (x :: A) (y :: B) = (x, Ent.zero) :: pairsL A (y :: B) := by
          rw [hc, show kl x.key.toList y.key.toList = true from hxy]; rfl
        have hyy : ∀ z ∈ y :: B, kl x.k z.k = true := fun z hz => by
          rcases List.mem_cons.1 hz with rfl | hz
          · exact hxy
          · exact kl_trans hxy (h3 z hz)
        refine step (x, Ent.zero) A (y :: B) x.k hc' (by simp at hn ⊢; omega) (fun _ h => List.mem_cons_of_mem _ h) (fun _ h => h) h2 hB (hg.a x List.mem_cons_self) h1 hyy (fun κ' h5 _ => h5 x List.mem_cons_self) ?_ fun k hk => ?_
        · rw [lk_mem hA List.mem_cons_self, lk_none fun z hz => (kl_ne (hyy z hz)).symm]; rfl
        · rw [lk_cons x, show (x.k == k) = false from by simpa using hk]; rfl
      · have hc' : pairsL (x :: A) (y :: B) = (x, y) :: pairsL A B := by
          rw [hc, show kl x.key.toList y.key.toList = false from by rw [show x.key.toList = y.key.toList from hxy]; exact kl_irrefl _, show kl y.key.toList x.key.toList = false from by rw [show x.key.toList = y.key.toList from hxy]; exact kl_irrefl _]; rfl
        refine step (x, y) A B x.k hc' (by simp at hn ⊢; omega) (fun _ h => List.mem_cons_of_mem _ h) (fun _ h => List.mem_cons_of_mem _ h) h2 h4 (hg.c x List.mem_cons_self y List.mem_cons_self hxy) h1 (fun z hz => by rw [hxy]; exact h3 z hz) (fun κ' h5 _ => h5 x List.mem_cons_self) ?_ fun k hk => ?_
        · rw [lk_mem hA List.mem_cons_self, hxy, lk_mem hB List.mem_cons_self]; rfl
        · rw [lk_cons x, lk_cons y, ← hxy, show (x.k == k) = false from by simpa using hk]; rfl
      · have hc' : pairsL (x :: A) (y :: B) = (Ent.zero, y) :: pairsL (x :: A) B := by
          rw [hc, show kl x.key.toList y.key.toList = false from kl_asymm hxy, show kl y.key.toList x.key.toList = true from hxy]; rfl
        have hxx : ∀ z ∈ x :: A, kl y.k z.k = true := fun z hz => by
          rcases List.mem_cons.1 hz with rfl | hz
          · exact hxy
          · exact kl_trans hxy (h1 z hz)
        refine step (Ent.zero, y) (x :: A) B y.k hc' (by simp at hn ⊢; omega) (fun _ h => h) (fun _ h => List.mem_cons_of_mem _ h) hA h4 (hg.b y List.mem_cons_self) hxx h3 (fun κ' _ h6 => h6 y List.mem_cons_self) ?_ fun k hk => ?_
        · rw [lk_mem hB List.mem_cons_self, lk_none fun z hz => (kl_ne (hxx z hz)).symm]; rfl
        · rw [lk_cons y, show (y.k == k) = false from by simpa using hk]; rfl
theorem pairs_mem : ∀ (n : Nat) (A B : List Ent) (p : Ent × Ent), p ∈ pairsN n A B → (p.1 ∈ A ∨ p.1 = Ent.zero) ∧ (p.2 ∈ B ∨ p.2 = Ent.zero)
  | 0, _, _, p, h => by cases h
  | _ + 1, [], [], p, h => by cases h
  | n + 1, x :: a, [], p, h => by
    simp only [pairsN, List.mem_cons] at h
    rcases h with rfl | h
    · exact ⟨.inl List.mem_cons_self, .inr rfl⟩
    · have := pairs_mem n a [] p h
      exact ⟨this.1.imp (List.mem_cons_of_mem _) id, this.2⟩
  | n + 1, [], y :: b, p, h => by
    simp only [pairsN, List.mem_cons] at h
    rcases h with rfl | h
    · exact ⟨.inr rfl, .inl List.mem_cons_self⟩
    · have := pairs_mem n [] b p h
      exact ⟨this.1, this.2.imp (List.mem_cons_of_mem _) id⟩
  | n + 1, x :: a, y :: b, p, h => by
    simp only [pairsN] at h
    cases h1 : klt x.key y.key <;> cases h2 : klt y.key x.key <;> rw [h1, h2] at h <;> simp only [cond_true, cond_false, List.mem_cons] at h
    · rcases h with rfl | h
      · exact ⟨.inl List.mem_cons_self, .inl List.mem_cons_self⟩
      · have := pairs_mem n a b p h
        exact ⟨this.1.imp (List.mem_cons_of_mem _) id, this.2.imp (List.mem_cons_of_mem _) id⟩
    · rcases h with rfl | h
      · exact ⟨.inr rfl, .inl List.mem_cons_self⟩
      · have := pairs_mem n (x :: a) b p h
        exact ⟨this.1, this.2.imp (List.mem_cons_of_mem _) id⟩
    all_goals
      rcases h with rfl | h
      · exact ⟨.inl List.mem_cons_self, .inr rfl⟩
      · have := pairs_mem n a (y :: b) p h
        exact ⟨this.1.imp (List.mem_cons_of_mem _) id, this.2⟩
theorem maxF_fm (l : List (Ent × Ent)) : maxF l = l.filterMap fun p => some (maxP p) := by
  unfold maxF; induction l with
  | nil => rfl
  | cons p l ih => rw [List.map_cons, List.filterMap_cons, ih]
theorem rlackF_fm (l : List (Ent × Ent)) : rlackF l = l.filterMap fun p => if rlackP p then some p.1 else none := by
  unfold rlackF; induction l with
  | nil => rfl
  | cons p l ih =>
    rw [List.filterMap_cons, List.filter_cons]
    cases rlackP p <;> simp [ih]
theorem newer_iff {e f : Ent} : newer e f = true ↔ e.c > f.c ∨ (e.c = f.c ∧ e.n > f.n) := by
  unfold newer
  rw [decide_eq_true_eq]
  have key : ∀ v : Int, vcmp e.c e.n f.c f.n = v → (v > 0 ↔ (e.c > f.c ∨ (e.c = f.c ∧ e.n > f.n))) → (vcmp e.c e.n f.c f.n > 0 ↔ (e.c > f.c ∨ (e.c = f.c ∧ e.n > f.n))) := fun v h k => by rw [h]; exact k
  by_cases h1 : e.c < f.c
  · exact key (-1) (by unfold vcmp cmpI; rw [decide_eq_true h1]; rfl) (by constructor <;> omega)
  · by_cases h2 : e.c > f.c
    · exact key 1 (by unfold vcmp cmpI; rw [decide_eq_false h1, decide_eq_true h2]; rfl) (by constructor <;> omega)
    · by_cases h3 : e.n < f.n
      · exact key (-1) (by unfold vcmp cmpI; rw [decide_eq_false h1, decide_eq_false h2, decide_eq_true h3]; rfl) (by constructor <;> omega)
      · by_cases h4 : e.n > f.n
        · exact key 1 (by unfold vcmp cmpI; rw [decide_eq_false h1, decide_eq_false h2, decide_eq_false h3, decide_eq_true h4]; rfl) (by constructor <;> omega)
        · exact key 0 (by unfold vcmp cmpI; rw [decide_eq_false h1, decide_eq_false h2, decide_eq_false h3, decide_eq_false h4]; rfl) (by constructor <;> omega)
theorem newer_zero {e : Ent} (h : 1 ≤ e.c) : newer e Ent.zero = true := newer_iff.2 (.inl (by show e.c > 0; omega))
theorem zero_newer {e : Ent} (h : 1 ≤ e.c) : newer Ent.zero e = false := by
  cases hn : newer Ent.zero e
  · rfl
  · have := newer_iff.1 hn
    have h0 : Ent.zero.c = 0 := rfl
    omega
theorem rnone_ok {e : Ent} (h : e.check = 0) : rnone e = false := by
  have := check_c h
  unfold rnone; simp; omega
theorem there_ok {e : Ent} (h : e.check = 0) : there e = true := by
  have := check_c h
  unfold there
  rw [show (e.c == 0) = false from by simp; omega]; rfl
theorem lack_same {A B : List Ent} (hA : Ok A) : lackF (pairsL A B) = rlackF (pairsL A B) := by
  unfold lackF rlackF
  congr 1
  refine List.filter_congr fun p hp => ?_
  unfold lackP rlackP
  rcases (pairs_mem _ A B p hp).1 with h | h
  · rw [there_ok (hA.chk _ h), rnone_ok (hA.chk _ h)]; rfl
  · rw [h]; rfl
def kv (e : Ent) : Key × Int × Int := (e.k, e.c, e.n)
theorem max_lk {A B : List Ent} (hA : Ok A) (hB : Ok B) : Srt (maxF (pairsL A B)) ∧ ∀ k, lk (maxF (pairsL A B)) k = match lk A k, lk B k with
    | none, none => none
    | some x, none => some x
    | none, some y => some y
    | some x, some y => some (best x y) := by
  have hz : ∀ x ∈ A, maxP (x, Ent.zero) = x := fun x hx => by
    have hc := check_c (hA.chk x hx)
    unfold maxP best
    rw [rnone_ok (hA.chk x hx)]
    simp [zero_newer hc]
  have hb : ∀ y : Ent, maxP (Ent.zero, y) = y := fun y => rfl
  have hc : ∀ x ∈ A, ∀ y, maxP (x, y) = best x y := fun x hx y => by unfold maxP; rw [rnone_ok (hA.chk x hx)]; rfl
  have hg : GOk (fun p => some (maxP p)) A B := ⟨fun x hx e he => by injection he with he; rw [hz x hx] at he; subst he; rfl, fun y _ e he => by injection he with he; rw [hb] at he; subst he; rfl, fun x hx y _ hxy e he => by
    injection he with he
    rw [hc x hx] at he
    subst he
    unfold best
    cases newer y x
    · rfl
    · exact hxy.symm⟩
  obtain ⟨h1, _, h3⟩ := pairs_fm _ _ A B (Nat.le_refl _) hA.srt hB.srt hg
  rw [← maxF_fm] at h1 h3
  refine ⟨h1, fun k => ?_⟩
  rw [h3]
  cases ha : lk A k with
  | none => cases hbk : lk B k with
    | none => rfl
    | some y => rfl
  | some x =>
    have hx := (lk_some ha).1
    cases hbk : lk B k with
    | none => show some (maxP (x, Ent.zero)) = _; rw [hz x hx]
    | some y => show some (maxP (x, y)) = _; rw [hc x hx]
theorem lack_lk {A B : List Ent} (hA : Ok A) (hB : Ok B) : Srt (rlackF (pairsL A B)) ∧ (∀ e ∈ rlackF (pairsL A B), e ∈ A) ∧ ∀ k, lk (rlackF (pairsL A B)) k = match lk A k, lk B k with
    | none, _ => none
    | some x, none => some x
    | some x, some y => cond (newer x y) (some x) none := by
  have hp : ∀ x ∈ A, ∀ y, rlackP (x, y) = newer x y := fun x hx y => by unfold rlackP; rw [rnone_ok (hA.chk x hx)]; rfl
  have hz : ∀ y : Ent, rlackP (Ent.zero, y) = false := fun y => rfl
  have hg : GOk (fun p => if rlackP p then some p.1 else none) A B := ⟨fun x hx e he => by simp only at he; split at he <;> simp at he; subst he; rfl, fun y _ e he => by simp [hz] at he, fun x hx y _ hxy e he => by simp only at he; split at he <;> simp at he; subst he; rfl⟩
  obtain ⟨h1, _, h3⟩ := pairs_fm _ _ A B (Nat.le_refl _) hA.srt hB.srt hg
  rw [← rlackF_fm] at h1 h3
  refine ⟨h1, fun e he => ?_, fun k => ?_⟩
  · unfold rlackF at he
    obtain ⟨p, hp1, rfl⟩ := List.mem_map.1 he
    obtain ⟨hp2, hp3⟩ := List.mem_filter.1 hp1
    rcases (pairs_mem _ A B p hp2).1 with h | h
    · exact h
    · unfold rlackP at hp3; rw [h] at hp3; cases hp3
  · rw [h3]
    cases ha : lk A k with
    | none => cases hbk : lk B k with
      | none => rfl
      | some y => show (if rlackP (Ent.zero, y) then some Ent.zero else none) = none; rw [hz]; rfl
    | some x =>
      have hx := (lk_some ha).1
      cases hbk : lk B k with
      | none => show (if rlackP (x, Ent.zero) then some x else none) = _; rw [hp x hx, newer_zero (check_c (hA.chk x hx))]; rfl
      | some y => show (if rlackP (x, y) then some x else none) = _; rw [hp x hx]; cases hn : newer x y <;> simp [hn]
theorem filter_len {α : Type} (p : α → Bool) : ∀ l : List α, (l.filter p).length + (l.filter fun x => !p x).length = l.length
  | [] => rfl
  | x :: l => by
    have ih := filter_len p l
    rw [List.filter_cons, List.filter_cons]
    cases p x <;> simp <;> omega
theorem kv_best {x y : Ent} (hk : x.k = y.k) : kv (cond (newer x y) x y) = kv (best x y) := by
  unfold best
  cases h1 : newer x y <;> cases h2 : newer y x
  · have a := mt newer_iff.2 (by rw [h1]; simp)
    have b := mt newer_iff.2 (by rw [h2]; simp)
    show (y.k, y.c, y.n) = (x.k, x.c, x.n)
    rw [hk, show y.c = x.c by omega, show y.n = x.n by omega]
  · rfl
  · rfl
  · have a := newer_iff.1 h1
    have b := newer_iff.1 h2
    omega
theorem meets {l m : List Ent} {r : Rng} (hl : Ok l) (hm : Ok m) {fA fB : List Ent} (hA : Ok fA) (hB : Ok fB)
    (kB : ∀ k, lk fB k = match lk (inL l r) k with | none => lk m k | some e => (match lk m k with | none => some e | some y => some (cond (newer e y) e y)))
    (kA : ∀ k, lk fA k = match lk (rlackF (pairsL (inL m r) (inL l r))) k with | none => lk l k | some e => (match lk l k with | none => some e | some y => some (cond (newer e y) e y))) :
    (inL fA r).map kv = (maxF (pairsL (inL l r) (inL m r))).map kv ∧ (inL fB r).map kv = (maxF (pairsL (inL l r) (inL m r))).map kv ∧
    fA.length - (inL fA r).length = l.length - (inL l r).length ∧ fB.length - (inL fB r).length = m.length - (inL m r).length := by
  have hil : ∀ k, lk (inL l r) k = cond (r.hk k) (lk l k) none := fun k => by rw [inL_filter]; exact lk_filter _ _ _
  have him : ∀ k, lk (inL m r) k = cond (r.hk k) (lk m k) none := fun k => by rw [inL_filter]; exact lk_filter _ _ _
  have hiA : ∀ k, lk (inL fA r) k = cond (r.hk k) (lk fA k) none := fun k => by rw [inL_filter]; exact lk_filter _ _ _
  have hiB : ∀ k, lk (inL fB r) k = cond (r.hk k) (lk fB k) none := fun k => by rw [inL_filter]; exact lk_filter _ _ _
  have oil : Ok (inL l r) := hl.sub List.filter_sublist
  have oim : Ok (inL m r) := hm.sub List.filter_sublist
  obtain ⟨sM, kM⟩ := max_lk oil oim
  obtain ⟨sL, _, kL⟩ := lack_lk oim oil
  have out : ∀ {f g : List Ent}, Ok f → Ok g → (∀ k, r.hk k = false → lk f k = lk g k) → f.length - (inL f r).length = g.length - (inL g r).length := by
    intro f g hf hg h
    have e : (f.filter fun x => !r.hk x.k) = g.filter fun x => !r.hk x.k := by
      have := srt_ext id (hf.srt.sub (List.filter_sublist (p := fun x => !r.hk x.k))) (hg.srt.sub (List.filter_sublist (p := fun x => !r.hk x.k))) fun k => by
        rw [lk_filter (fun k => !r.hk k), lk_filter (fun k => !r.hk k)]
        cases hk : r.hk k
        · rw [h k hk]
        · rfl
      simpa using this
    have h1 := filter_len (fun x => r.hk x.k) f
    have h2 := filter_len (fun x => r.hk x.k) g
    rw [e] at h1
    rw [inL_filter, inL_filter]; omega
  refine ⟨?_, ?_, out hA hl fun k hk => ?_, out hB hm fun k hk => ?_⟩
  · refine srt_ext kv (hA.srt.sub List.filter_sublist) sM fun k => ?_
    rw [hiA, kM, hil, him]
    cases hk : r.hk k
    · rfl
    · simp only [cond_true]
      rw [kA, kL, him, hil, hk]
      simp only [cond_true]
      cases h1 : lk l k with
      | none => cases h2 : lk m k <;> rfl
      | some x => cases h2 : lk m k with
        | none => rfl
        | some y =>
          show Option.map kv (match (cond (newer y x) (some y) none) with | none => _ | some e => _) = _
          unfold best
          cases h3 : newer y x <;> simp [h3]
  · refine srt_ext kv (hB.srt.sub List.filter_sublist) sM fun k => ?_
    rw [hiB, kM, hil, him]
    cases hk : r.hk k
    · rfl
    · simp only [cond_true]
      rw [kB, hil, hk]
      simp only [cond_true]
      cases h1 : lk l k with
      | none => cases h2 : lk m k <;> rfl
      | some x => cases h2 : lk m k with
        | none => rfl
        | some y =>
          show some (kv (cond (newer x y) x y)) = some (kv (best x y))
          rw [kv_best ((lk_some h1).2.trans (lk_some h2).2.symm)]
  · rw [kA, kL, him, hk]; rfl
  · rw [kB, hil, hk]; rfl
end Go.Proofs.YtcopemgkjbaaeaaDoor
namespace Go.Proofs.YtcopemgkjbaaeaaDoor
set_option linter.all false
open Go.RowKit
def Ent.eq (e f : Ent) : Bool := (e.key.toList == f.key.toList) && ((e.c == f.c && e.n == f.n) && ((e.val.toList == f.val.toList) && (e.dead == f.dead)))
theorem eqEnt (e f : Ent) : EqB Tryd.prog 61 4 e.v f.v (Ent.eq e f) :=
  eqA (k := 3) (fs := #[⟨"Key", 9, 0, false, "", "", 0⟩, ⟨"Version", 59, 1, false, "", "", 16⟩, ⟨"Value", 9, 3, false, "", "", 32⟩, ⟨"Dead", 4, 4, false, "", "", 48⟩]) (by kernel_rfl) (by kernel_rfl) fun d w =>
    eqf_cons (a := .string e.key) (b := .string f.key) rfl (by kernel_rfl) (by kernel_rfl) ((eqS (by kernel_rfl)).up 2 d w)
      (eqf_cons (a := .agg #[.int .i64 e.c, .int .i64 e.n]) (b := .agg #[.int .i64 f.c, .int .i64 f.n]) rfl (by kernel_rfl) (by kernel_rfl) (eqVer _ _ _ _ d w)
        (eqf_cons (a := .string e.val) (b := .string f.val) rfl (by kernel_rfl) (by kernel_rfl) ((eqS (by kernel_rfl)).up 2 d w)
          (eqf_last (a := .bool e.dead) (b := .bool f.dead) rfl (by kernel_rfl) (by kernel_rfl) ((eqBo (by kernel_rfl)).up 2 d w))))
def Rng.eq (r s : Rng) : Bool := (r.lo.toList == s.lo.toList) && ((r.hi.toList == s.hi.toList) && (r.op == s.op))
theorem eqRng (r s : Rng) : EqB Tryd.prog 24 2 r.v s.v (Rng.eq r s) :=
  eqA (k := 1) (fs := #[⟨"Lo", 9, 0, false, "", "", 0⟩, ⟨"Hi", 9, 1, false, "", "", 16⟩, ⟨"Open", 4, 2, false, "", "", 32⟩]) (by kernel_rfl) (by kernel_rfl) fun d w =>
    eqf_cons (a := .string r.lo) (b := .string s.lo) rfl (by kernel_rfl) (by kernel_rfl) (eqS (by kernel_rfl) d w)
      (eqf_cons (a := .string r.hi) (b := .string s.hi) rfl (by kernel_rfl) (by kernel_rfl) (eqS (by kernel_rfl) d w)
        (eqf_last (a := .bool r.op) (b := .bool s.op) rfl (by kernel_rfl) (by kernel_rfl) (eqBo (by kernel_rfl) d w)))
def sameE : List Ent → List Ent → Bool
  | [], [] => true
  | e :: a, f :: b => Ent.eq e f && sameE a b
  | _, _ => false
theorem sameE_len : ∀ {a b : List Ent}, a.length ≠ b.length → sameE a b = false
  | [], [], h => absurd rfl h
  | [], _ :: _, _ => rfl
  | _ :: _, [], _ => rfl
  | e :: a, f :: b, h => by
    have := sameE_len (a := a) (b := b) (by simpa using h)
    simp only [sameE, this, Bool.and_false]
theorem sameE_drop {A B : List Ent} {i : Nat} {e f : Ent} (he : A[i]? = some e) (hf : B[i]? = some f) : sameE (A.drop i) (B.drop i) = (Ent.eq e f && sameE (A.drop (i + 1)) (B.drop (i + 1))) := by
  obtain ⟨h1, h2⟩ := List.getElem?_eq_some_iff.1 he
  obtain ⟨h3, h4⟩ := List.getElem?_eq_some_iff.1 hf
  rw [List.drop_eq_getElem_cons h1, h2, List.drop_eq_getElem_cons h3, h4, sameE]
theorem same_cr {w : World} {ba bb : Option Addr} {ca cb : Nat} (A B : List Ent) (ha : InS w ba (entCells A)) (hb : InS w bb (entCells B)) (hA : A.length < 1000000) :
    CR Tryd.prog 19 [.slice ba A.length ca, .slice bb B.length cb] w fun v w' => v = .bool (sameE A B) ∧ Ext [] w w' := by
  have st := St.init w []
  refine CR_enter Tryd.func19 rfl Tryd.ntmps19 rfl ?_
  refine W_seq <| W_region ?_
  let a1 : Value := .slice ba A.length ca
  let a2 : Value := .slice bb B.length cb
  refine RP_sg 1 [.p (.bool false)] [(0, a1), (1, a2)] trivial ?_
  refine RP_nil <| n_then <| W_seq <| W_seq <| W_region <| RP_sg 5 [.p a1, .p (.int .i64 ((A.length : Nat) : Int)), .p a2, .p (.int .i64 ((B.length : Nat) : Int)), .p (.bool (((A.length : Nat) : Int) != ((B.length : Nat) : Int)))] [(0, a1), (1, a2), (10, .bool (((A.length : Nat) : Int) != ((B.length : Nat) : Int)))] trivial ?_
  refine RP_nil <| n_then <| W_cond rfl (fun c10_3 => ?_) (fun c10_3 => ?_)
  ·
   refine W_seq <| W_region <| RP_sg 1 [.p (.bool false)] [(4, .bool false)] trivial ?_
   refine RP_nil <| n_then <| W_ret <| r_then ?_
   refine ret_of (P := Tryd.prog) (fn := Tryd.f19) (m := [(4, .bool false)]) (w := w) (res1 rfl (rv_tmp rfl)) ?_
   exact ⟨by rw [sameE_len (by have h := c10_3; simp at h; omega)], st.ext⟩
  ·
   refine W_skip <| n_then <| W_seq <| W_seq <| W_region <| RP_sg 1 [.p (.int .i64 0)] [(0, a1), (1, a2), (5, .int .i64 0)] trivial ?_
   refine RP_nil <| n_then <| W_block ?_
   have hlen : A.length = B.length := by have h := c10_3; simp at h; omega
   refine W_loop (fun k_ m_ w_ => ∃ (i : Nat), A.length - i = k_ ∧ m_ = [(0, a1), (1, a2), (5, .int .i64 ((i : Nat) : Int))] ∧ St [] w w_ [] ∧ i ≤ A.length ∧ sameE (A.drop i) (B.drop i) = sameE A B) ⟨0, rfl, rfl, st, Nat.zero_le _, rfl⟩ ?_
   rintro _ _ w5 ⟨i, rfl, rfl, st4, hil, hle⟩
   refine W_seq <| W_seq <| W_region <| RP_sg 4 [.p (.int .i64 ((i : Nat) : Int)), .p a1, .p (.int .i64 ((A.length : Nat) : Int)), .p (.bool (decide (((i : Nat) : Int) < ((A.length : Nat) : Int))))] [(0, a1), (1, a2), (5, .int .i64 ((i : Nat) : Int)), (14, .bool (decide (((i : Nat) : Int) < ((A.length : Nat) : Int))))] trivial ?_
   refine RP_nil <| n_then <| W_cond rfl (fun c14_6 => ?_) (fun c14_6 => ?_)
   ·
    have c14_6p := of_decide_eq_true c14_6
    refine W_skip <| n_then <| W_seq <| W_block <| W_seq <| W_regionS ⟨(fun w' => InS w' ba (entCells A) ∧ InS w' bb (entCells B)), (fun _ => True)⟩ (.cons 1 0 (.cons 1 1 (.cons 1 2 (.cons 1 3 (.cons 1 4 (.cons 1 5 (.cons 1 6 (.cons 1 7 (.cons 1 8 .nil))))))))) 9 (by kernel_rfl) (by kernel_rfl) ?_
    have st7 := st4.drew
    refine RS_sg 2 [.p a1, .p (.int .i64 ((i : Nat) : Int))] [(0, a1), (1, a2), (5, .int .i64 ((i : Nat) : Int)), (17, a1), (18, .int .i64 ((i : Nat) : Int))] (⟨ha.ext0 st7.ext, hb.ext0 st7.ext⟩) (fun _ hS => trivial) ?_
    have hlt : i < A.length := by omega
    obtain ⟨e, he⟩ : ∃ e, A[i]? = some e := ⟨A[i], by simp [hlt]⟩
    obtain ⟨f, hf⟩ : ∃ e, B[i]? = some e := ⟨B[i]'(by omega), by simp⟩
    refine RS_q rfl rfl (⟨ha.ext0 st7.ext, hb.ext0 st7.ext⟩) (v := .pointer (some ⟨(sp ba), so ba + i * 5, none⟩)) (fun _ _ => ev_indexI idxEnt rfl rfl (ha.some_ (by rw [entCells_len]; omega)) hlt) ?_
    let a8 : Value := .agg #[.string e.key, .int .i64 e.c, .int .i64 e.n, .string e.val, .bool e.dead]
    refine RS_sg 3 [.l 61 (.pointer (some ⟨(sp ba), so ba + i * 5, none⟩)) a8, .p a2, .p (.int .i64 ((i : Nat) : Int))] [(0, a1), (1, a2), (5, .int .i64 ((i : Nat) : Int)), (20, a8), (21, a2), (22, .int .i64 ((i : Nat) : Int))] (⟨ha.ext0 st7.ext, hb.ext0 st7.ext⟩) (fun _ hS => ⟨(InS.loadN agg_61 (hS.1) (entCells_at he) rfl (by decide)), trivial⟩) ?_
    refine RS_q rfl rfl (⟨ha.ext0 st7.ext, hb.ext0 st7.ext⟩) (v := .pointer (some ⟨(sp bb), so bb + i * 5, none⟩)) (fun _ _ => ev_indexI idxEnt rfl rfl (hb.some_ (by rw [entCells_len]; omega)) (by omega)) ?_
    let a9 : Value := .agg #[.string f.key, .int .i64 f.c, .int .i64 f.n, .string f.val, .bool f.dead]
    refine RS_sg 1 [.l 61 (.pointer (some ⟨(sp bb), so bb + i * 5, none⟩)) a9] [(0, a1), (1, a2), (5, .int .i64 ((i : Nat) : Int)), (20, a8), (24, a9)] (⟨ha.ext0 st7.ext, hb.ext0 st7.ext⟩) (fun _ hS => ⟨(InS.loadN agg_61 (hS.2) (entCells_at hf) rfl (by decide)), trivial⟩) ?_
    refine RS_q rfl rfl (⟨ha.ext0 st7.ext, hb.ext0 st7.ext⟩) (v := .bool (!Ent.eq e f)) (fun _ _ => ev_neq (eqEnt e f) (by decide) (by kernel_rfl) rfl rfl) ?_
    refine RS_pk [(0, a1), (1, a2), (5, .int .i64 ((i : Nat) : Int)), (25, .bool (!Ent.eq e f))] ?_
    refine RS_nil <| n_then <| W_cond rfl (fun c25_10 => ?_) (fun c25_10 => ?_)
    ·
     refine W_seq <| W_region <| RP_sg 1 [.p (.bool false)] [(4, .bool false)] trivial ?_
     refine RP_nil <| n_then <| W_ret <| r_block <| r_then <| r_loop <| r_block <| r_then ?_
     have hq : Ent.eq e f = false := by simpa using c25_10
     have hz : sameE A B = false := by rw [← hle, sameE_drop he hf, hq]; rfl
     refine ret_of (P := Tryd.prog) (fn := Tryd.f19) (m := [(4, .bool false)]) (w := w5.drew) (res1 rfl (rv_tmp rfl)) ?_
     exact ⟨by rw [hz], st7.ext⟩
    ·
     refine W_skip <| n_block <| n_then <| W_region <| RP_sg 3 [.p (.int .i64 ((i : Nat) : Int)), .p (.int .i64 (IntKind.i64.wrap (((i : Nat) : Int) + 1))), .p (.int .i64 (IntKind.i64.wrap (((i : Nat) : Int) + 1)))] [(0, a1), (1, a2), (5, .int .i64 (IntKind.i64.wrap (((i : Nat) : Int) + 1)))] trivial ?_
     refine RP_nil ?_
     have hq : Ent.eq e f = true := by simpa using c25_10
     exact ⟨_, by omega, (i + 1), rfl, by rw [inc_w (n := i) (by omega)], st7, by omega, by rw [← hle, sameE_drop he hf, hq]; rfl⟩
   ·
    have c14_6p := of_decide_eq_false c14_6
    refine W_exit ?_
    refine e_then <| e_loop <| e_here ?_
    refine n_then <| W_seq <| W_region <| RP_sg 1 [.p (.bool true)] [(4, .bool true)] trivial ?_
    refine RP_nil <| n_then <| W_ret ?_
    have hiL : i = A.length := by omega
    have hz : sameE A B = true := by rw [← hle, hiL, List.drop_length, hlen, List.drop_length]; rfl
    refine ret_of (P := Tryd.prog) (fn := Tryd.f19) (m := [(4, .bool true)]) (w := w5) (res1 rfl (rv_tmp rfl)) ?_
    exact ⟨by rw [hz], st4.ext⟩
theorem sub_mid {α : Type} {a b c : α} : List.Sublist [a, c] [a, b, c] := List.Sublist.cons₂ _ (List.sublist_cons_self _ _)
def whole : Rng := ⟨⟨#[]⟩, ⟨#[]⟩, true⟩
theorem lawHeld_cr {w : World} {gs bm bt : Nat} {p : Option Addr} {node clock j : Int} {t : T} (hS : Sto w gs bm bt p node clock j t) (hs : t.size ≤ 256) :
    CR Tryd.prog 20 [.pointer (some ⟨gs, 0, none⟩)] w fun v w' => ∃ b c, v = .slice b (t.rowsR whole).length c ∧ Acc w [] w' 61 5 (.slice b (t.rowsR whole).length c) (t.rowsR whole).length (entCells (t.rowsR whole)) ∧ Ext [] w w' := by
  have st := St.init w []
  have hrl := T.rank_le whole.lo t
  have hrh := T.rankHi_le t whole
  have hr : whole.check = 0 := by kernel_rfl
  have hRl := T.rowsR_le t whole
  have hRR : t.rowsR whole = t.rows (t.rank whole.lo : Nat) (t.rankHi whole : Nat) := by unfold T.rowsR; rw [hr]; rfl
  refine CR_enter Tryd.func20 rfl Tryd.ntmps20 rfl ?_
  refine W_seq <| W_region <| RP_e rfl (ef_alloc st zero_22 rfl) ?_
  rintro _ w1 ⟨gr, rfl, hgr, hgr', st2, hx3⟩
  replace st2 : St [] w w1 [(gr, 22, [.slice none 0 0])] := st2
  let a4 : Value := .pointer (some ⟨gs, 0, none⟩)
  let a5 : Value := .pointer (some ⟨gr, 0, none⟩)
  refine RP_pk [(0, a4), (2, a5)] ?_
  refine RP_nil <| n_then <| W_seq <| W_region <| RP_e rfl (ef_new (t := 61) (cs := []) (fun g => .slice (some ⟨g, 0, none⟩) 0 0) st2 rfl rfl (fun _ => by kernel_rfl)) ?_
  rintro _ w6 ⟨g8, rfl, hg8, hg8', st7, hx8⟩
  refine RP_e rfl (ef_alloc st7 zero_22 rfl) ?_
  rintro _ w9 ⟨go, rfl, hgo, hgo', st10, hx11⟩
  replace st10 : St [] w w9 [(go, 22, [.slice none 0 0]), (g8, 61, []), (gr, 22, [.slice none 0 0])] := st10
  refine RP_e rfl (ef_store st10 rfl rfl rfl size_22 0 rfl rfl rfl rfl (.inr hgo)) ?_
  rintro _ w12 ⟨rfl, st13, hx14⟩
  replace st13 : St [] w w12 [(go, 22, [.slice (some ⟨g8, 0, none⟩) 0 0]), (g8, 61, []), (gr, 22, [.slice none 0 0])] := st13
  let a15 : Value := .pointer (some ⟨go, 0, none⟩)
  refine RP_pk [(0, a4), (2, a5), (3, a15)] ?_
  refine RP_nil <| n_then <| W_seq <| W_region ?_
  let a16 : Value := .agg #[.string (⟨#[]⟩ : ByteArray), .string (⟨#[]⟩ : ByteArray), .bool true]
  refine RP_sg 2 [.p a4, .p a16] [(2, a5), (3, a15), (9, a4), (10, a16)] trivial ?_
  refine RP_e rfl (ef_call (k := 27) (args := [a4, a16]) (storeAll_cr (p := p) (j := j) (t := t) whole (hS.ext0 st13.ext) (by omega)) body_27 (by kernel_rfl)) ?_
  rintro _ w17 ⟨_, rfl, u, rfl, hx19, -, hu⟩
  have st18 := st13.call0 hx19
  obtain ⟨ga, b7, b4, b5, rfl, -, -, -, -, hnd⟩ := hu hr
  rw [hr]
  replace hnd : AllNd w ga b7 b4 b5 p _ _ _ := ⟨⟨(NodesKept.of_ext st13.ext (NoNode.nil _)).trans hnd.rows.kept, hnd.rows.b7, hnd.rows.b4, hnd.rows.b5⟩, hnd.ba⟩
  let a20 : Value := .func (.func 71) #[] #[.pointer (some ⟨ga, 0, none⟩)]
  refine RP_sg 5 [.p (.tuple #[a20, .int .i64 0]), .p a20, .p (.int .i64 0), .p a20, .p (.int .i64 0)] [(2, a5), (3, a15), (4, a20), (5, .int .i64 0)] trivial ?_
  refine RP_nil <| n_then <| W_seq <| W_seq <| W_region <| RP_sg 6 [.p (.int .i64 0), .p (.bool false), .p (.bool false), .p a20, .p (.bool false), .p (.bool false)] [(2, a5), (3, a15), (4, a20), (19, .bool false)] trivial ?_
  refine RP_nil <| n_then <| W_false rfl ?_
  refine W_skip <| n_then <| W_seq <| W_seq <| W_region <| RP_sg 1 [.p a20] [(2, a5), (3, a15), (21, a20)] trivial ?_
  refine RP_nil <| n_then <| W_block ?_
  have hBl21 := st18.ext.size
  refine W_range (encs := (fun e : Ent => [e.v])) (xs := (t.rows ((t.rank whole.lo : Nat) : Int) ((t.rankHi whole : Nat) : Int))) (all_it (g7 := b7) (g4 := b4) (g5 := b5) hS.ist (by omega) (by omega) (by omega) (by omega) (by omega)) rfl body_71 (fun _ => rfl) (by kernel_rfl) (fun (pre : List Ent) (w_ : World) => ∃ (b : Option Addr) (c : Nat), St [] w w_ [(go, 22, [.slice b pre.length c]), (gr, 22, [.slice none 0 0])] ∧ AllNd w ga b7 b4 b5 p ((t.rank whole.lo : Nat) : Int) ((t.rankHi whole : Nat) : Int) w_ ∧ Acc w [] w_ 61 5 (.slice b pre.length c) pre.length (entCells pre)) (fun _ _ => False) ?_ ?_ ?_ ?_ ?_ ?_ ?_ ?_
  · rintro pre A_ B_ ⟨b, c, hst_, hnd, hac⟩ hg_
    exact ⟨b, c, hst_.grow hg_ hBl21, hnd.grow hg_, hac.grow hg_⟩
  · exact fun _ _ _ h _ => h
  · rintro pre w_ ⟨b, c, hst_, hnd, hac⟩
    exact hnd
  · exact fun _ _ h => h.elim
  · exact ⟨_, _, st18.sub [] sub_mid, hnd, Acc.of_new (size := 5) (j := 0) st18 1 rfl rfl (by decide) hg8⟩
  · -- a round
   rintro l_ pre e w22 ⟨b, c, st23, hnd, hac⟩ hpre_ hle_
   have hlo := ownsRow.lt hac.own
   have hpl : pre.length < (t.rows ((t.rank whole.lo : Nat) : Int) ((t.rankHi whole : Nat) : Int)).length := by have := hpre_.length_le; simp at this; omega
   rw [hRR] at hRl
   have hkn := KeepsN.refl (w17).heap.size w22
   refine W_pick [2, 3, 22] (by kernel_rfl : pick _ _ = some [(2, a5), (3, a15), (22, .agg #[.string e.key, .int .i64 e.c, .int .i64 e.n, .string e.val, .bool e.dead])]) ?_
   refine W_region <| RP_e rfl (ef_alloc st23 zero_61 rfl) ?_
   rintro _ w24 ⟨g6, rfl, hg6, hg6', st25, hx26⟩
   replace st25 : St [] w w24 [(g6, 61, [.string (⟨#[]⟩ : ByteArray), .int .i64 0, .int .i64 0, .string (⟨#[]⟩ : ByteArray), .bool false]), (go, 22, [.slice b pre.length c]), (gr, 22, [.slice none 0 0])] := st25
   replace hnd := hnd.of_ext hx26
   replace hac := hac.ext hx26 (by simp)
   replace hkn := hkn.ext0 hx26
   refine RP_e rfl (ef_store st25 rfl rfl rfl size_61 0 rfl rfl rfl rfl (.inr hg6)) ?_
   rintro _ w27 ⟨rfl, st28, hx29⟩
   replace st28 : St [] w w27 [(g6, 61, [.string e.key, .int .i64 e.c, .int .i64 e.n, .string e.val, .bool e.dead]), (go, 22, [.slice b pre.length c]), (gr, 22, [.slice none 0 0])] := st28
   replace hnd := hnd.of_ext1 hx29 (st25.get 0 rfl) (by decide)
   replace hac := hac.ext hx29 (fun q hq hm => by simp only [List.mem_singleton] at hm; have := (hlo q hq).1; omega)
   replace hkn := hkn.ext1 hx29 (st25.get 0 rfl) rfl
   let a30 : Value := .pointer (some ⟨g6, 0, none⟩)
   refine RP_pk [(2, a5), (3, a15), (6, a30)] ?_
   refine RP_nil <| assign_end hkn (fun w31 hg32 => ?_)
   have st33 := st28.grow hg32 (hBl21)
   replace hnd := hnd.grow hg32
   replace hac := hac.grow hg32
   replace hkn := KeepsN.refl (w17).heap.size w31
   refine W_block <| W_seq <| W_region ?_
   let a34 : Value := .slice b pre.length c
   let a35 : Value := .agg #[.string e.key, .int .i64 e.c, .int .i64 e.n, .string e.val, .bool e.dead]
   refine RP_sg 2 [.l 22 a15 a34, .l 61 a30 a35] [(2, a5), (3, a15), (23, a34), (24, a35)] ⟨ld1 st33 nagg_22 1 rfl rfl, ldN st33 agg_61 0 rfl rfl rfl, trivial⟩ ?_
   refine RP_e rfl (ef_new (t := 61) (cs := [.string e.key, .int .i64 e.c, .int .i64 e.n, .string e.val, .bool e.dead]) (fun g => .slice (some ⟨g, 0, none⟩) 1 1) st33 rfl rfl (fun _ => by kernel_rfl)) ?_
   rintro _ w36 ⟨g39, rfl, hg39, hg39', st37, hx38⟩
   replace hnd := hnd.of_ext hx38
   replace hac := hac.ext hx38 (by simp)
   replace hkn := hkn.ext0 hx38
   have hkown := hac.own
   refine RP_e rfl (ef_appendI appEnt (st37.sub (M' := [(g6, 61, [.string e.key, .int .i64 e.c, .int .i64 e.n, .string e.val, .bool e.dead]), (go, 22, [.slice b pre.length c]), (gr, 22, [.slice none 0 0])]) [] (List.sublist_cons_self _ _)) hac rfl rfl (InS.of_blk (st37.get 0 rfl)) rfl rfl (by simp only [maxLen]; omega) (by omega) (apart_cons hlo hg6' (Acc.apart hac ((st37.sub [] (List.sublist_cons_self _ _)).sub [] (List.sublist_cons_self _ _)) rfl))) ?_
   rintro _ w40 ⟨v3, rfl, hac, st41, hx42⟩
   replace hnd := hnd.of_own hx42 hkown (by decide)
   replace hkn := hkn.extOwn hx42 hkown rfl
   obtain ⟨b3, c3, rfl⟩ := ownsRow.form' hac.own
   have hgt : decide ((((pre.length + 1) : Nat) : Int) > 256) = false := decide_eq_false (by omega)
   refine RP_e rfl (ef_store st41 rfl rfl rfl size_22 1 rfl rfl rfl rfl (.inr hgo)) ?_
   rintro _ w43 ⟨rfl, st44, hx45⟩
   replace st44 : St [] w w43 [(g6, 61, [.string e.key, .int .i64 e.c, .int .i64 e.n, .string e.val, .bool e.dead]), (go, 22, [.slice b3 (pre.length + 1) c3]), (gr, 22, [.slice none 0 0])] := st44
   replace hnd := hnd.of_ext1 hx45 (st41.get 1 rfl) (by decide)
   replace hac := hac.ext hx45 (hac.not_blk (st41.get 1 rfl) (by decide))
   replace hkn := hkn.ext1 hx45 (st41.get 1 rfl) rfl
   refine RP_pk [(2, a5), (3, a15)] ?_
   refine RP_nil <| n_then <| W_seq <| W_region <| RP_sg 3 [.l 22 a15 (.slice b3 (pre.length + 1) c3), .p (.int .i64 (((pre.length + 1) : Nat) : Int)), .p (.bool (decide ((((pre.length + 1) : Nat) : Int) > 256)))] [(2, a5), (3, a15), (29, .bool (decide ((((pre.length + 1) : Nat) : Int) > 256)))] ⟨ld1 st44 nagg_22 1 rfl rfl, trivial⟩ ?_
   refine RP_nil <| n_then <| W_false' rfl hgt ?_
   refine W_skip <| n_block ?_
   have hle3 : (pre ++ [e]).length = pre.length + 1 := by simp
   exact round_end hkn ⟨b3, c3, by rw [hle3]; exact st44.sub [] (List.sublist_cons_self _ _), hnd, by rw [hle3, entCells_snoc]; exact hac⟩
  · -- all have come
   rintro D46 w47 hD46w ⟨b, c, st48, hnd, hac⟩ hD46
   replace hD46w := Nat.le_trans hBl21 hD46w
   replace hD46 : IsDef w47 D46 := hD46
   refine n_block <| n_then <| W_seq <| W_region ?_
   let a49 : Value := .slice b ((t.rows ((t.rank whole.lo : Nat) : Int) ((t.rankHi whole : Nat) : Int)).length) c
   refine RP_sg 1 [.l 22 a15 a49] [(2, a5), (31, a49), (1000000, .pointer (some ⟨D46, 0, none⟩))] ⟨ld1 st48 nagg_22 0 rfl rfl, trivial⟩ ?_
   refine RP_e rfl (ef_store st48 rfl rfl rfl size_22 1 rfl rfl rfl rfl (.inr hgr)) ?_
   rintro _ w50 ⟨rfl, st51, hx52⟩
   replace st51 : St [] w w50 [(go, 22, [.slice b ((t.rows ((t.rank whole.lo : Nat) : Int) ((t.rankHi whole : Nat) : Int)).length) c]), (gr, 22, [.slice b ((t.rows ((t.rank whole.lo : Nat) : Int) ((t.rankHi whole : Nat) : Int)).length) c])] := st51
   replace hnd := hnd.of_ext1 hx52 (st48.get 1 rfl) (by decide)
   replace hac := hac.ext hx52 (hac.not_blk (st48.get 1 rfl) (by decide))
   replace hD46 := hD46.ext1 hx52 (st48.get 1 rfl)
   let a53 : Value := .pointer (some ⟨D46, 0, none⟩)
   refine RP_pk [(2, a5), (1000000, a53)] ?_
   refine RP_nil <| n_then <| W_ret <| ret_ofM (P := Tryd.prog) (fn := Tryd.f20) (m := [(2, .pointer (some ⟨gr, 0, none⟩)), (1000000, .pointer (some ⟨D46, 0, none⟩))]) (w := w50) (D := D46) rfl hD46 (fun w54 hg55 => ?_)
   have st56 := st51.grow hg55 (hD46w)
   replace hnd := hnd.grow hg55
   replace hac := hac.grow hg55
   rw [hRR]
   refine ⟨_, res1 rfl (rv_cell rfl (by simpa [Instr.loadAt, Instr.sureAddr] using (ld1 st56 nagg_22 1 rfl rfl))), ?_⟩
   exact ⟨b, c, rfl, hac, st56.ext⟩
  · -- it was left
   exact fun _ _ _ _ h _ => h.elim
end Go.Proofs.YtcopemgkjbaaeaaDoor
namespace Go.Proofs.YtcopemgkjbaaeaaDoor
set_option linter.all false
open Go.RowKit
theorem entsE_ok (p : Prt) : ∀ (q : Option Ent) (l : List Ent), Ok l → (∀ e ∈ l, p.r.hk e.k = true) → (∀ x, q = some x → ∀ e ∈ l, kl x.k e.k = true) → entsE p q l = 0
  | _, [], _, _, _ => rfl
  | q, e :: l, h, hh, hq => by
    have ih := entsE_ok p (some e) l (h.sub (List.sublist_cons_self _ _)) (fun x hx => hh x (List.mem_cons_of_mem _ hx)) fun x hx y hy => by injection hx with hx; subst hx; exact (Srt.cons.1 h.srt).1 y hy
    have hz : entE p q e = 0 := by
      unfold entE
      rw [h.chk e List.mem_cons_self, holds_hk, hh e List.mem_cons_self]
      cases q with
      | none => rfl
      | some x =>
        show (bif !kl x.k e.k then (116 : Int) else 0) = 0
        rw [hq x rfl e List.mem_cons_self]; rfl
    rw [entsE, hz]; exact ih
theorem part_ok {p : Prt} (hk : p.k = 2 ∨ (p.k = 3 ∧ p.es ≠ [])) (ht : p.t = Tal.zero) (hr : p.r.check = 0) (he : p.r.empty = false) (hes : Ok p.es) (hh : ∀ e ∈ p.es, p.r.hk e.k = true) (hl : p.es.length ≤ 256) : exErr p = 0 := by
  have h1 : p.entries = 0 := by
    unfold Prt.entries
    rw [entsE_ok p none p.es hes hh fun _ h => by cases h]
    rcases hk with hk | ⟨hk, hne⟩
    · rw [hk]; rfl
    · rw [hk]
      have : (((p.es.length : Nat) : Int) == 0) = false := by
        have := List.length_pos_iff.2 hne
        simp; exact hne
      rw [this]; rfl
  have h2 : p.fields = 0 := by
    unfold Prt.fields
    rw [ht]
    rcases hk with hk | ⟨hk, _⟩ <;> rw [hk] <;> rfl
  have h3 : partE none p = 0 := by
    unfold partE
    rw [h2, hr, he, h1]
    rcases hk with hk | ⟨hk, _⟩ <;> rw [hk] <;> rfl
  have h4 : checkParts [p] = 0 := by
    unfold checkParts
    simp only [roomE, partsE, h3]
    rw [decide_eq_false (show ¬ ((p.es.length : Nat) : Int) > 256 by omega)]
    rfl
  unfold exErr
  rw [h4]
  rcases hk with hk | ⟨hk, _⟩ <;> rw [hk] <;> rfl
theorem refIn_ok {w : World} {b : Option Addr} {c : Nat} {L : List Ent} {r : Rng} (hin : InS w b (entCells L)) (hL : L.length < 100000) (ho : Ok L) (hr : r.check = 0) :
    CR Tryd.prog 16 [.slice b L.length c, r.v] w fun v w' => ∃ d f, v = .tuple #[.slice d (inL L r).length f, .int .i64 0] ∧ Acc w [] w' 61 5 (.slice d (inL L r).length f) (inL L r).length (entCells (inL L r)) ∧ Ext [] w w' :=
  (ref09In_cr L r hin hL).mono fun v w' h => by rw [inErr_ok ho hr] at h; exact h
theorem mergeIn_ok {w : World} {b : Option Addr} {c : Nat} {L : List Ent} {r : Rng} (hin : InS w b (entCells L)) (hL : L.length < 100000) (ho : Ok L) (hr : r.check = 0) :
    CR Tryd.prog 22 [.slice b L.length c, r.v] w fun v w' => ∃ d f, v = .tuple #[.slice d (inL L r).length f, .int .i64 0] ∧ Acc w [] w' 61 5 (.slice d (inL L r).length f) (inL L r).length (entCells (inL L r)) ∧ Ext [] w w' :=
  (mergeIn_cr L r hin hL).mono fun v w' h => by rw [inErr_ok ho hr] at h; exact h
theorem pairsR_ok {A B : List Ent} (hA : Ok A) (hB : Ok B) : pairsR A B = pairsL A B := by unfold pairsR; rw [chk2_ok hA hB]; rfl
theorem refLacks_ok {w : World} {ba bb : Option Addr} {ca cb : Nat} {A B : List Ent} (ha : InS w ba (entCells A)) (hb : InS w bb (entCells B)) (hA : A.length ≤ 10000) (hB : B.length ≤ 10000) (oA : Ok A) (oB : Ok B) {R : List Ent} (hR : rlackF (pairsL A B) = R) :
    CR Tryd.prog 18 [.slice ba A.length ca, .slice bb B.length cb] w fun v w' => ∃ d f, v = .tuple #[.slice d R.length f, .int .i64 0] ∧ Acc w [] w' 61 5 (.slice d R.length f) R.length (entCells R) ∧ Ext [] w w' :=
  (ref09Lacks_cr A B ha hb hA hB).mono fun v w' h => by rw [pairsR_ok oA oB, hR, chk2_ok oA oB] at h; exact h
theorem refMax_ok {w : World} {ba bb : Option Addr} {ca cb : Nat} {A B : List Ent} (ha : InS w ba (entCells A)) (hb : InS w bb (entCells B)) (hA : A.length ≤ 10000) (hB : B.length ≤ 10000) (oA : Ok A) (oB : Ok B) :
    CR Tryd.prog 21 [.slice ba A.length ca, .slice bb B.length cb] w fun v w' => ∃ d f, v = .tuple #[.slice d (maxF (pairsL A B)).length f, .int .i64 0] ∧ Acc w [] w' 61 5 (.slice d (maxF (pairsL A B)).length f) (maxF (pairsL A B)).length (entCells (maxF (pairsL A B))) ∧ Ext [] w w' :=
  (ref09Max_cr A B ha hb hA hB).mono fun v w' h => by rw [pairsR_ok oA oB, chk2_ok oA oB] at h; exact h
theorem lawHeld_ok {w : World} {gs bm bt : Nat} {p : Option Addr} {node clock j : Int} {t : T} (hS : Sto w gs bm bt p node clock j t) (hs : t.list.length ≤ 256) (ho : Ok t.list) :
    CR Tryd.prog 20 [.pointer (some ⟨gs, 0, none⟩)] w fun v w' => ∃ b c, v = .slice b t.list.length c ∧ Acc w [] w' 61 5 (.slice b t.list.length c) t.list.length (entCells t.list) ∧ Ext [] w w' :=
  (lawHeld_cr hS (by rw [T.size_list]; exact hs)).mono fun v w' h => by
    have e : t.rowsR whole = t.list := T.rowsR_whole ho
    rw [e] at h; exact h
theorem Ent.eq_refl (e : Ent) : Ent.eq e e = true := by simp [Ent.eq]
theorem sameE_refl : ∀ l : List Ent, sameE l l = true
  | [] => rfl
  | e :: l => by simp only [sameE, Ent.eq_refl, sameE_refl l, Bool.and_self]
theorem Rng.eq_refl (r : Rng) : Rng.eq r r = true := by simp [Rng.eq]
theorem lackE_k {t : T} {p : Prt} (h : p.k = 3) : lackE t p = [] := by unfold lackE; rw [h]; rfl
theorem lackE_eq {t : T} {p : Prt} {E : List Ent} (hk : p.k = 2) (hE : p.es = E) (ot : Ok t.list) (hr : p.r.check = 0) (oE : Ok E) : lackE t p = rlackF (pairsL (inL t.list p.r) E) := by
  have e : t.rowsR p.r = inL t.list p.r := by rw [T.rowsR_list ot hr, inL_filter]
  have oi : Ok (inL t.list p.r) := ot.sub List.filter_sublist
  unfold lackE
  rw [hk, e, hE, chk2_ok oi oE]
  exact lack_same oi
theorem Acc.sep {w0 w : World} {X : List Nat} {e : TypeId} {size k c : Nat} {b : Option Addr} {xs : List Value} {gs bm bt : Nat} {p : Option Addr} {node clock j : Int} {t : T} (h : Acc w0 X w e size (.slice b k c) k xs) (hS : Sto w gs bm bt p node clock j t)
    (he : (e != 179 && (e != 205 && e != 129)) = true) : xs = [] ∨ sp b ∉ [gs, bt, bm] := by
  rcases Nat.eq_zero_or_pos k with rfl | hk
  · exact .inl (List.eq_nil_of_length_eq_zero (by have := h.own.1; rw [Nat.zero_mul] at this; exact this))
  · obtain ⟨h1, _⟩ := ownsRow.some_ h.own hk
    refine .inr (h.apartS hS he (sp b) ?_)
    rw [h1]
    simp [ownB, Value.ownBlock, sp]
theorem Exchange_ok {w : World} {gs bm bt : Nat} {q : Option Addr} {node clock j : Int} {t : T} (p : Prt) (hl : Lanes w) (hS : Sto w gs bm bt q node clock j t) (hs : t.size ≤ 700) (hin : InS w p.eb (entCells p.es)) (hes : p.es.length < 1000000) (hsep : entCells p.es = [] ∨ sp p.eb ∉ [gs, bt, bm]) (he : exErr p = 0)
    {HD : Hd} (hHD : (⟨t, clock, 0, 0⟩ : Hd).all p.es = HD) {LE : List Ent} (hLE : lackE t p = LE) :
    CR Tryd.prog 17 [.pointer (some ⟨gs, 0, none⟩), p.v] w fun v w' => (∃ q' j', Sto w' gs bm bt q' node HD.clock j' HD.t) ∧ Ext [gs, bt, bm] w w' ∧
      ((LE = [] ∧ ∃ d f, v = .tuple #[.slice d 0 f, .agg #[.int .i64 ((HD.tk : Nat) : Int), .int .i64 ((HD.rf : Nat) : Int)], .int .i64 0]) ∨
      (LE ≠ [] ∧ ∃ d f eb ec, v = .tuple #[.slice d 1 f, .agg #[.int .i64 ((HD.tk : Nat) : Int), .int .i64 ((HD.rf : Nat) : Int)], .int .i64 0] ∧ Acc w [] w' 34 8 (.slice d 1 f) 1 (prtCells [⟨3, p.r, Tal.zero, LE, eb, ec⟩]) ∧
        Acc w [] w' 61 5 (.slice eb LE.length ec) LE.length (entCells LE))) :=
  (Exchange_cr p hl hS hs hin hes hsep).mono fun v w' h => by
    obtain ⟨d, f, eb, ec, hv, h1, h2, h3, h4⟩ := h
    have he2 : (exErr p != 0) = false := by rw [he]; rfl
    have hP : exParts t p eb ec = exOut t p eb ec := by unfold exParts; rw [he2]; rfl
    have hX : exHd t clock p = HD := by unfold exHd; rw [he2]; exact hHD
    rw [hX] at hv h3
    rw [hP] at hv h1 h2
    rw [he] at hv
    refine ⟨h3, h4, ?_⟩
    by_cases hn : LE = []
    · have ho : exOut t p eb ec = [] := by unfold exOut; rw [hLE, hn]; rfl
      rw [ho] at hv
      exact .inl ⟨hn, d, f, hv⟩
    · have ho : exOut t p eb ec = [⟨3, p.r, Tal.zero, LE, eb, ec⟩] := by
        unfold exOut
        rw [hLE, decide_eq_true (by have := List.length_pos_iff.2 hn; omega)]; rfl
      rw [ho] at hv h1 h2
      rw [hLE] at h2
      exact .inr ⟨hn, d, f, eb, ec, hv, h1, h2 (by simp)⟩
theorem Exchange_reply {w : World} {gs bm bt : Nat} {q : Option Addr} {node clock j : Int} {t : T} (p : Prt) (hl : Lanes w) (hS : Sto w gs bm bt q node clock j t) (hs : t.size ≤ 700) (hin : InS w p.eb (entCells p.es)) (hes : p.es.length < 1000000) (hsep : entCells p.es = [] ∨ sp p.eb ∉ [gs, bt, bm]) (he : exErr p = 0) (hk : p.k = 3)
    {HD : Hd} (hHD : (⟨t, clock, 0, 0⟩ : Hd).all p.es = HD) :
    CR Tryd.prog 17 [.pointer (some ⟨gs, 0, none⟩), p.v] w fun v w' => ∃ d f, v = .tuple #[.slice d 0 f, .agg #[.int .i64 ((HD.tk : Nat) : Int), .int .i64 ((HD.rf : Nat) : Int)], .int .i64 0] ∧ (∃ q' j', Sto w' gs bm bt q' node HD.clock j' HD.t) ∧ Ext [gs, bt, bm] w w' :=
  (Exchange_ok p hl hS hs hin hes hsep he hHD (lackE_k hk)).mono fun v w' h => by
    obtain ⟨h1, h2, ⟨_, d, f, hv⟩ | ⟨hn, _⟩⟩ := h
    · exact ⟨d, f, hv, h1, h2⟩
    · exact absurd rfl hn
theorem Sto.other {w w' : World} {gs bm bt gs' bm' bt' : Nat} {p p' : Option Addr} {node clock j node' clock' j' : Int} {t t' : T} (h : Sto w gs bm bt p node clock j t) (h' : Sto w gs' bm' bt' p' node' clock' j' t') (hx : Ext [gs', bt', bm'] w w')
    (hd : gs ∉ [gs', bt', bm'] ∧ bt ∉ [gs', bt', bm'] ∧ bm ∉ [gs', bt', bm']) : Sto w' gs bm bt p node clock j t := h.ext hx h'.nonode hd.1 hd.2
end Go.Proofs.YtcopemgkjbaaeaaDoor
namespace Go.Proofs.YtcopemgkjbaaeaaDoor
set_option linter.all false
open Go.RowKit
theorem srt_le : ∀ (m : List Ent) {l : List Ent}, Srt l → Srt m → (∀ e ∈ l, e ∈ m) → l.length ≤ m.length
  | _, [], _, _, _ => Nat.zero_le _
  | [], x :: l, _, _, h => by cases h x List.mem_cons_self
  | y :: m, x :: l, hl, hm, h => by
    have h1 := Srt.cons.1 hl
    have h2 := Srt.cons.1 hm
    have := srt_le m h1.2 h2.2 fun e he => by
      rcases List.mem_cons.1 (h e (List.mem_cons_of_mem _ he)) with rfl | h3
      · exfalso
        have h4 := h1.1 e he
        rcases List.mem_cons.1 (h x List.mem_cons_self) with rfl | h5
        · rw [kl_irrefl] at h4; cases h4
        · have h6 := h2.1 x h5
          rw [kl_asymm h4] at h6; cases h6
      · exact h3
    simp only [List.length_cons]; omega
theorem lack_ok {L K : List Ent} {r : Rng} (oL : Ok L) (oK : Ok K) {R : List Ent} (hR : rlackF (pairsL (inL K r) (inL L r)) = R) : Ok R ∧ (∀ e ∈ R, r.hk e.k = true) ∧ R.length ≤ K.length := by
  have oil : Ok (inL L r) := by rw [inL_filter]; exact oL.sub List.filter_sublist
  have oik : Ok (inL K r) := by rw [inL_filter]; exact oK.sub List.filter_sublist
  obtain ⟨sR, mR, _⟩ := lack_lk oik oil
  rw [hR] at sR mR
  refine ⟨⟨sR, fun e he => oik.chk e (mR e he)⟩, fun e he => ?_, Nat.le_trans (srt_le _ sR oik.srt mR) (inL_le K r)⟩
  have := mR e he
  rw [inL_filter] at this
  exact (List.mem_filter.1 this).2
theorem eqMet {F M : List Ent} (h : F.map kv = M.map kv) : F.length = M.length := by have := congrArg List.length h; simpa using this
structure Met (L K : List Ent) (r : Rng) (HA HB : Hd) : Prop where
  oa : Ok HA.t.list
  ob : Ok HB.t.list
  la : HA.t.list.length ≤ 256
  lb : HB.t.list.length ≤ 256
  fa : 0 < HA.rf → HA.t.list.length = 256
  fb : 0 < HB.rf → HB.t.list.length = 256
  ok : HA.rf = 0 → HB.rf = 0 → (inL HA.t.list r).map kv = (maxF (pairsL (inL L r) (inL K r))).map kv ∧ (inL HB.t.list r).map kv = (maxF (pairsL (inL L r) (inL K r))).map kv ∧
    HA.t.list.length - (inL HA.t.list r).length = L.length - (inL L r).length ∧ HB.t.list.length - (inL HB.t.list r).length = K.length - (inL K r).length
theorem met {L K : List Ent} {r : Rng} {c : Int} (oL : Ok L) (oK : Ok K) (hL : L.length ≤ 256) (hK : K.length ≤ 256) {R : List Ent} (hR : rlackF (pairsL (inL K r) (inL L r)) = R) {HA HB : Hd}
    (hA : (⟨T.load L, c, 0, 0⟩ : Hd).all R = HA) (hB : (⟨T.load K, c, 0, 0⟩ : Hd).all (inL L r) = HB) : Met L K r HA HB := by
  have oil : Ok (inL L r) := by rw [inL_filter]; exact oL.sub List.filter_sublist
  have oik : Ok (inL K r) := by rw [inL_filter]; exact oK.sub List.filter_sublist
  obtain ⟨sR, mR, _⟩ := lack_lk oik oil
  rw [hR] at sR mR
  have oR : Ok R := ⟨sR, fun e he => oik.chk e (mR e he)⟩
  have eL := T.load_list oL.srt
  have eK := T.load_list oK.srt
  obtain ⟨a1, a2, -, -, a5, a6⟩ := Hd.all_list R ⟨T.load L, c, 0, 0⟩ oR (by show Ok (T.load L).list; rw [eL]; exact oL) (by show (T.load L).list.length ≤ 256; rw [eL]; exact hL)
  obtain ⟨b1, b2, -, -, b5, b6⟩ := Hd.all_list (inL L r) ⟨T.load K, c, 0, 0⟩ oil (by show Ok (T.load K).list; rw [eK]; exact oK) (by show (T.load K).list.length ≤ 256; rw [eK]; exact hK)
  rw [hA] at a1 a2 a5 a6
  rw [hB] at b1 b2 b5 b6
  refine ⟨a1, b1, a2, b2, a5, b5, fun h1 h2 => ?_⟩
  have kA := a6 h1
  have kB := b6 h2
  simp only [eL] at kA
  simp only [eK] at kB
  rw [← hR] at kA
  exact meets oL oK a1 b1 kB kA
theorem met_at {F M : List Ent} (h : F.map kv = M.map kv) {i : Nat} (hi : i < M.length) : ∃ e m, F[i]? = some e ∧ M[i]? = some m ∧ e.k = m.k ∧ e.c = m.c ∧ e.n = m.n := by
  have hl : F.length = M.length := by have := congrArg List.length h; simpa using this
  have h1 : (F.map kv)[i]? = (M.map kv)[i]? := by rw [h]
  have hf : F[i]? = some (F[i]'(by omega)) := by simp
  have hm : M[i]? = some M[i] := by simp [hi]
  refine ⟨_, _, hf, hm, ?_⟩
  rw [List.getElem?_map, List.getElem?_map, hf, hm] at h1
  simp only [Option.map_some, Option.some.injEq, kv, Prod.mk.injEq] at h1
  obtain ⟨h2, h3, h4⟩ := h1
  exact ⟨h2, h3, h4⟩
end Go.Proofs.YtcopemgkjbaaeaaDoor
namespace Go.Proofs.YtcopemgkjbaaeaaDoor
set_option linter.all false
open Go
section
variable {P : Program} {n : FrC} {Q : SQ} {m : SM} {w : World} {J : SM → World → Prop}
def midQ (J : SM → World → Prop) (Q : SQ) : SQ
  | .normal, m, w => J m w
  | e, m, w => Q e m w
theorem W_up {c : Code} {Q R : SQ} (h : ∀ e m w, Q e m w → R e m w) (hw : W P n c Q m w) : W P n c R m w := fun a ha => wpIn_mono (hw a ha) fun e a' w' q => by
  cases e <;> first
    | exact q
    | (obtain ⟨m', hs, hq⟩ := q; exact ⟨m', hs, h _ _ _ hq⟩)
def seqs : List Code → Code → Code
  | [], r => r
  | c :: cs, r => .seq c (seqs cs r)
def thensQ (P : Program) (n : FrC) : List Code → SQ → SQ
  | [], Q => Q
  | c :: cs, Q => thenQ P n c (thensQ P n cs Q)
theorem thens_mid {r : Code} (h : ∀ m w, J m w → W P n r Q m w) : ∀ (cs : List Code) (e : Exit) (m : SM) (w : World), thensQ P n cs (midQ J Q) e m w → thenQ P n (seqs cs r) Q e m w
  | [], e, m, w, q => by
    cases e <;> first
      | exact h _ _ q
      | exact q
  | c :: cs, e, m, w, q => by
    have ih := thens_mid h cs
    cases e with
    | normal => exact W_seq (W_up ih q)
    | _ =>
      have := ih _ m w q
      exact this
theorem W_mid (J : SM → World → Prop) {c : Code} (cs : List Code) {r : Code} (h : W P n c (thensQ P n cs (midQ J Q)) m w) (hr : ∀ m w, J m w → W P n r Q m w) : W P n (.seq c (seqs cs r)) Q m w :=
  W_seq (W_up (thens_mid hr cs) h)
theorem n_mid (h : J m w) : midQ J Q .normal m w := h
theorem r_mid (h : Q .ret m w) : midQ J Q .ret m w := h
end
end Go.Proofs.YtcopemgkjbaaeaaDoor
namespace Go.Proofs.YtcopemgkjbaaeaaDoor
set_option linter.all false
open Go.RowKit
theorem apart3 {a b c x : Nat} {h n : Nat} (h1 : n ≤ a) (h2 : n ≤ b) (h3 : n ≤ c) : ∀ k ∈ [a, b, c], k ∈ ([] : List Nat) ∨ n ≤ k := by
  intro k hk
  simp only [List.mem_cons, List.not_mem_nil, or_false] at hk
  rcases hk with rfl | rfl | rfl <;> exact .inr ‹_›
theorem refIn_or {w : World} {b : Option Addr} {c : Nat} (L : List Ent) (r : Rng) (hin : InS w b (entCells L)) (hL : L.length < 100000) (ho : Ok L) :
    CR Tryd.prog 16 [.slice b L.length c, r.v] w fun v w' => Ext [] w w' ∧ ((r.check ≠ 0 ∧ ∃ d n f, v = .tuple #[.slice d n f, .int .i64 r.check]) ∨
      (r.check = 0 ∧ ∃ d f, v = .tuple #[.slice d (inL L r).length f, .int .i64 0] ∧ Acc w [] w' 61 5 (.slice d (inL L r).length f) (inL L r).length (entCells (inL L r)))) := by
  by_cases hr : r.check = 0
  · exact (refIn_ok hin hL ho hr).mono fun v w' ⟨d, f, h1, h2, h3⟩ => ⟨h3, .inr ⟨hr, d, f, h1, h2⟩⟩
  · refine (ref09In_cr L r hin hL).mono fun v w' ⟨d, f, h1, _, h3⟩ => ⟨h3, .inl ⟨hr, d, (cond (inErr L r != 0) [] (inL L r)).length, f, ?_⟩⟩
    have hz : inErr L r = r.check := by unfold inErr; rw [(chkM_none L).2 ho, show (r.check != 0) = true from by simpa using hr]; rfl
    rw [h1, hz]
theorem matchMeets_cr {w : World} {b d : Option Addr} {c f : Nat} (L K : List Ent) (r : Rng) (hl : Lanes w) (hin : InS w b (entCells L)) (hik : InS w d (entCells K)) (hL : L.length ≤ 9223372036854775807) (hK : K.length ≤ 9223372036854775807) :
    CR Tryd.prog 4 [.slice b L.length c, .slice d K.length f, r.v] w fun v w' => v = .bool true ∧ Ext [] w w' := by
  have st := St.init w []
  refine CR_enter Tryd.func4 rfl Tryd.ntmps4 rfl ?_
  refine W_seq <| W_region <| RP_e rfl (ef_box st rfl rfl) ?_
  rintro _ w1 ⟨g5, rfl, hg5, hg5', st2, hx3⟩
  replace st2 : St [] w w1 [(g5, 24, [.string r.lo, .string r.hi, .bool r.op])] := st2
  let a4 : Value := .slice b L.length c
  let a5 : Value := .slice d K.length f
  let a6 : Value := .pointer (some ⟨g5, 0, none⟩)
  refine RP_sg 1 [.p (.bool false)] [(0, a4), (1, a5), (5, a6)] trivial ?_
  refine RP_nil <| n_then <| W_seq <| W_seq <| W_region ?_
  let a7 : Value := .agg #[.int .i64 0, .string r.lo, .string r.hi, .bool r.op, .int .i64 0, .int .u64 0, .int .u64 0, .slice none 0 0]
  refine RP_sg 2 [.l 24 a6 (.agg #[.string r.lo, .string r.hi, .bool r.op]), .p a7] [(0, a4), (1, a5), (5, a6), (32, a7)] ⟨ldN st2 agg_24 0 rfl rfl rfl, trivial⟩ ?_
  refine RP_e rfl (ef_call (k := 10) (args := [a7]) (one_cr ⟨0, r, Tal.zero, [], none, 0⟩ _) body_10 (by kernel_rfl)) ?_
  rintro _ w8 ⟨_, rfl, b1, c1, rfl, hone, hx10⟩
  have st9 := st2.call0 hx10
  refine RP_sg 2 [.p a4, .p a5] [(0, a4), (1, a5), (5, a6), (33, .slice b1 1 c1), (34, a4), (35, a5)] trivial ?_
  refine RP_e rfl (ef_new (t := 22) (cs := [a4, a5]) (fun g => .slice (some ⟨g, 0, none⟩) 2 2) st9 rfl rfl (fun _ => by kernel_rfl)) ?_
  rintro _ w11 ⟨gs, rfl, hgs, hgs', st12, hx13⟩
  replace hone := hone.ext0 hx13
  refine RP_e rfl (ef_call (k := 9) (args := [.slice b1 1 c1, .slice (some ⟨gs, 0, none⟩) 2 2]) (beyond_cr [⟨0, r, Tal.zero, [], none, 0⟩] [⟨L, b, c⟩, ⟨K, d, f⟩] hone (fun p hp => by simp only [List.mem_singleton] at hp; subst hp; exact .inl rfl) (show 1 ≤ 9223372036854775807 by decide) (fun p hp => by simp only [List.mem_singleton] at hp; subst hp; exact (show 0 ≤ 9223372036854775807 by decide)) (InS.of_blk (st12.get 0 rfl)) (fun s hs => by simp only [List.mem_cons, List.not_mem_nil, or_false] at hs; rcases hs with rfl | rfl <;> first | exact hin.ext0 st12.ext | exact hik.ext0 st12.ext) (show 2 ≤ 9223372036854775807 by decide) (fun s hs => by simp only [List.mem_cons, List.not_mem_nil, or_false] at hs; rcases hs with rfl | rfl <;> assumption)) body_9 (by kernel_rfl)) ?_
  rintro _ w14 ⟨_, rfl, nb, rfl, hx16⟩
  have st15 := st12.call0 hx16
  refine RP_sg 1 [.p (.bool nb)] [(0, a4), (1, a5), (5, a6), (38, .bool nb)] trivial ?_
  rcases Bool.eq_false_or_eq_true (nb) with c38_17 | c38_17
  ·
   refine RP_at (m' := [(0, a4), (1, a5), (5, a6), (38, .bool true)]) (by rw [c38_17]) ?_
   refine RP_sg 1 [.no] [(0, a4), (1, a5), (5, a6), (38, .bool true), (39, undef)] trivial ?_
   refine RP_no rfl rfl (by decide) ?_
   refine RP_sg 4 [.no, .p (.bool true), .p (.bool true), .no] [(0, a4), (1, a5), (5, a6), (43, .bool true), (44, undef)] trivial ?_
   refine RP_no rfl rfl (by decide) ?_
   refine RP_sg 2 [.no, .p (.bool true)] [(0, a4), (1, a5), (5, a6), (47, .bool true)] trivial ?_
   refine RP_nil <| n_then <| W_true rfl ?_
   refine W_seq <| W_region <| RP_sg 1 [.p (.bool true)] [(6, .bool true)] trivial ?_
   refine RP_nil <| n_then <| W_ret <| r_then ?_
   refine ret_of (P := Tryd.prog) (fn := Tryd.f4) (m := [(6, .bool true)]) (w := w14) (res1 rfl (rv_tmp rfl)) ?_
   exact ⟨rfl, st15.ext⟩
  ·
   refine RP_at (m' := [(0, a4), (1, a5), (5, a6), (38, .bool false)]) (by rw [c38_17]) ?_
   refine RP_sg 1 [.p a4] [(0, a4), (1, a5), (5, a6), (38, .bool false), (39, a4)] trivial ?_
   refine RP_ge rfl rfl (ef_call (k := 11) (args := [.int .i64 4, a4]) (right_cr 4 (hin.ext0 st15.ext)) body_11 (by kernel_rfl)) ?_
   rintro _ w18 ⟨_, rfl, rfl, hx20⟩
   have st19 := st15.call0 hx20
   refine RP_sg 3 [.p (.bool (!(loadErr 4 1099511627776 L == 0))), .p (.bool (!(loadErr 4 1099511627776 L == 0))), .p (.bool (!(loadErr 4 1099511627776 L == 0)))] [(0, a4), (1, a5), (5, a6), (43, .bool (!(loadErr 4 1099511627776 L == 0)))] trivial ?_
   rcases Bool.eq_false_or_eq_true (!(loadErr 4 1099511627776 L == 0)) with c43_21 | c43_21
   ·
    refine RP_at (m' := [(0, a4), (1, a5), (5, a6), (43, .bool true)]) (by rw [c43_21]) ?_
    refine RP_sg 1 [.no] [(0, a4), (1, a5), (5, a6), (43, .bool true), (44, undef)] trivial ?_
    refine RP_no rfl rfl (by decide) ?_
    refine RP_sg 2 [.no, .p (.bool true)] [(0, a4), (1, a5), (5, a6), (47, .bool true)] trivial ?_
    refine RP_nil <| n_then <| W_true rfl ?_
    refine W_seq <| W_region <| RP_sg 1 [.p (.bool true)] [(6, .bool true)] trivial ?_
    refine RP_nil <| n_then <| W_ret <| r_then ?_
    refine ret_of (P := Tryd.prog) (fn := Tryd.f4) (m := [(6, .bool true)]) (w := w18) (res1 rfl (rv_tmp rfl)) ?_
    exact ⟨rfl, st19.ext⟩
   ·
    refine RP_at (m' := [(0, a4), (1, a5), (5, a6), (43, .bool false)]) (by rw [c43_21]) ?_
    refine RP_sg 1 [.p a5] [(0, a4), (1, a5), (5, a6), (43, .bool false), (44, a5)] trivial ?_
    refine RP_ge rfl rfl (ef_call (k := 11) (args := [.int .i64 5, a5]) (right_cr 5 (hik.ext0 st19.ext)) body_11 (by kernel_rfl)) ?_
    rintro _ w22 ⟨_, rfl, rfl, hx24⟩
    have st23 := st19.call0 hx24
    refine RP_sg 2 [.p (.bool (!(loadErr 5 1099511627776 K == 0))), .p (.bool (!(loadErr 5 1099511627776 K == 0)))] [(0, a4), (1, a5), (5, a6), (47, .bool (!(loadErr 5 1099511627776 K == 0)))] trivial ?_
    refine RP_nil <| n_then <| W_cond rfl (fun c47_25 => ?_) (fun c47_25 => ?_)
    ·
     refine W_seq <| W_region <| RP_sg 1 [.p (.bool true)] [(6, .bool true)] trivial ?_
     refine RP_nil <| n_then <| W_ret <| r_then ?_
     refine ret_of (P := Tryd.prog) (fn := Tryd.f4) (m := [(6, .bool true)]) (w := w22) (res1 rfl (rv_tmp rfl)) ?_
     exact ⟨rfl, st23.ext⟩
    ·
     refine W_skip <| n_then <| W_seq ?_
     have h4 : loadErr 4 1099511627776 L = 0 := by have := c43_21; simpa using this
     have h5 : loadErr 5 1099511627776 K = 0 := by have := c47_25; simpa using this
     have hl4 := (loadErr_ok h4).1
     have hl5 := (loadErr_ok h5).1
     have oL := loadErr_srt h4
     have oK := loadErr_srt h5
     refine W_region <| RP_sg 1 [.p a4] [(0, a4), (1, a5), (5, a6), (49, a4)] trivial ?_
     refine RP_e rfl (ef_call (k := 12) (args := [.int .i64 4, a4]) (made_cr 4 (hl.ext st23.ext List.not_mem_nil) (hin.ext0 st23.ext) h4) body_12 (by kernel_rfl)) ?_
     rintro _ w26 ⟨_, rfl, gA, bmA, btA, pA, jA, gdA, bdA, cdA, rfl, hA, -, hx28, ngA, nmA, ntA, -⟩
     have st27 := st23.call0 hx28
     replace ngA : w.heap.size ≤ gA := Nat.le_trans st23.ext.size ngA
     replace nmA : w.heap.size ≤ bmA := Nat.le_trans st23.ext.size nmA
     replace ntA : w.heap.size ≤ btA := Nat.le_trans st23.ext.size ntA
     let a29 : Value := .agg #[.pointer (some ⟨gA, 0, none⟩), .pointer (some ⟨gdA, 0, none⟩)]
     refine RP_sg 3 [.p (.tuple #[a29, .bool true]), .p a29, .p (.bool true)] [(0, a4), (1, a5), (5, a6), (51, a29), (52, .bool true)] trivial ?_
     refine RP_e rfl (ef_alloc st27 zero_39 rfl) ?_
     rintro _ w30 ⟨g7, rfl, hg7, hg7', st31, hx32⟩
     replace st31 : St [] w w30 [(g7, 39, [.pointer none, .pointer none]), (gs, 22, [.slice b L.length c, .slice d K.length f]), (g5, 24, [.string r.lo, .string r.hi, .bool r.op])] := st31
     replace hA := hA.ext0 hx32
     refine RP_e rfl (ef_store st31 rfl rfl rfl size_39 0 rfl rfl rfl rfl (.inr hg7)) ?_
     rintro _ w33 ⟨rfl, st34, hx35⟩
     replace st34 : St [] w w33 [(g7, 39, [.pointer (some ⟨gA, 0, none⟩), .pointer (some ⟨gdA, 0, none⟩)]), (gs, 22, [.slice b L.length c, .slice d K.length f]), (g5, 24, [.string r.lo, .string r.hi, .bool r.op])] := st34
     replace hA := hA.ext1 hx35 (st31.get 0 rfl) (by decide) (by decide) (by decide) (by decide)
     let a36 : Value := .pointer (some ⟨g7, 0, none⟩)
     refine RP_sg 1 [.p (.bool true)] [(0, a4), (1, a5), (5, a6), (7, a36), (8, .bool true)] trivial ?_
     refine RP_nil <| n_then <| W_seq <| W_region <| RP_sg 1 [.p a5] [(0, a4), (1, a5), (5, a6), (7, a36), (8, .bool true), (54, a5)] trivial ?_
     have lgA := hA.blk.lt
     have ltA := hA.tr.t.lt
     have lmA := hA.tr.m.lt
     refine RP_e rfl (ef_call (k := 12) (args := [.int .i64 5, a5]) (made_cr 5 (hl.ext st34.ext List.not_mem_nil) (hik.ext0 st34.ext) h5) body_12 (by kernel_rfl)) ?_
     rintro _ w37 ⟨_, rfl, gB, bmB, btB, pB, jB, gdB, bdB, cdB, rfl, hB, -, hx39, ngB, nmB, ntB, -⟩
     have st38 := st34.call0 hx39
     replace hA := hA.ext0 hx39
     have hdA : gA ∉ [gB, btB, bmB] ∧ btA ∉ [gB, btB, bmB] ∧ bmA ∉ [gB, btB, bmB] := by simp only [List.mem_cons, List.not_mem_nil, or_false]; omega
     have hdB : gB ∉ [gA, btA, bmA] ∧ btB ∉ [gA, btA, bmA] ∧ bmB ∉ [gA, btA, bmA] := by simp only [List.mem_cons, List.not_mem_nil, or_false]; omega
     replace ngB : w.heap.size ≤ gB := Nat.le_trans st34.ext.size ngB
     replace nmB : w.heap.size ≤ bmB := Nat.le_trans st34.ext.size nmB
     replace ntB : w.heap.size ≤ btB := Nat.le_trans st34.ext.size ntB
     have nA := apart3 (x := 0) (h := 0) ngA ntA nmA
     have nB := apart3 (x := 0) (h := 0) ngB ntB nmB
     let a40 : Value := .agg #[.pointer (some ⟨gB, 0, none⟩), .pointer (some ⟨gdB, 0, none⟩)]
     refine RP_sg 3 [.p (.tuple #[a40, .bool true]), .p a40, .p (.bool true)] [(0, a4), (1, a5), (5, a6), (7, a36), (8, .bool true), (56, a40), (57, .bool true)] trivial ?_
     refine RP_e rfl (ef_alloc st38 zero_39 rfl) ?_
     rintro _ w41 ⟨g9, rfl, hg9, hg9', st42, hx43⟩
     replace st42 : St [] w w41 [(g9, 39, [.pointer none, .pointer none]), (g7, 39, [.pointer (some ⟨gA, 0, none⟩), .pointer (some ⟨gdA, 0, none⟩)]), (gs, 22, [.slice b L.length c, .slice d K.length f]), (g5, 24, [.string r.lo, .string r.hi, .bool r.op])] := st42
     replace hA := hA.ext0 hx43
     replace hB := hB.ext0 hx43
     refine RP_e rfl (ef_store st42 rfl rfl rfl size_39 0 rfl rfl rfl rfl (.inr hg9)) ?_
     rintro _ w44 ⟨rfl, st45, hx46⟩
     replace st45 : St [] w w44 [(g9, 39, [.pointer (some ⟨gB, 0, none⟩), .pointer (some ⟨gdB, 0, none⟩)]), (g7, 39, [.pointer (some ⟨gA, 0, none⟩), .pointer (some ⟨gdA, 0, none⟩)]), (gs, 22, [.slice b L.length c, .slice d K.length f]), (g5, 24, [.string r.lo, .string r.hi, .bool r.op])] := st45
     replace hA := hA.ext1 hx46 (st42.get 0 rfl) (by decide) (by decide) (by decide) (by decide)
     replace hB := hB.ext1 hx46 (st42.get 0 rfl) (by decide) (by decide) (by decide) (by decide)
     let a47 : Value := .pointer (some ⟨g9, 0, none⟩)
     refine RP_sg 1 [.p (.bool true)] [(0, a4), (1, a5), (5, a6), (7, a36), (8, .bool true), (9, a47), (10, .bool true)] trivial ?_
     refine RP_nil <| n_then <| W_seq <| W_seq <| W_region <| RP_sg 6 [.p (.bool true), .p (.bool false), .p (.bool false), .p (.bool true), .p (.bool false), .p (.bool false)] [(0, a4), (1, a5), (5, a6), (7, a36), (9, a47), (63, .bool false)] trivial ?_
     refine RP_nil <| n_then <| W_false rfl ?_
     refine W_skip <| n_then ?_
     have oil : Ok (inL L r) := by rw [inL_filter]; exact oL.sub List.filter_sublist
     have oik : Ok (inL K r) := by rw [inL_filter]; exact oK.sub List.filter_sublist
     have hli := inL_le L r
     have hlk := inL_le K r
     refine W_mid (fun m_ w_ => ∃ (dI : Option Addr) (fI : Nat), pick m_ [0, 1, 5, 7, 9, 11] = some [(0, a4), (1, a5), (5, a6), (7, a36), (9, a47), (11, .slice dI ((inL L r).length) fI)] ∧ St [] w w_ [(g9, 39, [.pointer (some ⟨gB, 0, none⟩), .pointer (some ⟨gdB, 0, none⟩)]), (g7, 39, [.pointer (some ⟨gA, 0, none⟩), .pointer (some ⟨gdA, 0, none⟩)]), (gs, 22, [.slice b L.length c, .slice d K.length f]), (g5, 24, [.string r.lo, .string r.hi, .bool r.op])] ∧ Sto w_ gA bmA btA pA 4 1099511627776 jA (T.load L) ∧ Sto w_ gB bmB btB pB 5 1099511627776 jB (T.load K) ∧ Acc w [] w_ 61 5 (.slice dI (inL L r).length fI) (inL L r).length (entCells (inL L r)) ∧ r.check = 0 ∧ r.empty = false) [_] ?_ ?_
     ·
      change W _ _ _ (thenQ _ _ _ (midQ _ _)) _ _
      refine W_region ?_
      let a48 : Value := .agg #[.string r.lo, .string r.hi, .bool r.op]
      refine RP_sg 2 [.p a4, .l 24 a6 a48] [(0, a4), (1, a5), (5, a6), (7, a36), (9, a47), (65, a4), (66, a48)] ⟨ldN st45 agg_24 3 rfl rfl rfl, trivial⟩ ?_
      refine RP_e rfl (ef_call (k := 16) (args := [a4, a48]) (refIn_or L r (hin.ext0 st45.ext) (by omega) oL) body_16 (by kernel_rfl)) ?_
      rintro _ w49 ⟨_, rfl, hxI, h_⟩
      rcases h_ with ⟨hne, dI, nI, fI, rfl⟩ | ⟨hrc, dI, fI, rfl, hI⟩
      ·
       have st50 := st45.call0 hxI
       have hne2 : (r.check != 0) = true := by simpa using hne
       replace hA := hA.ext0 hxI
       replace hB := hB.ext0 hxI
       let a51 : Value := .slice dI nI fI
       refine RP_sg 5 [.p (.tuple #[a51, .int .i64 r.check]), .p a51, .p (.int .i64 r.check), .p a51, .p (.int .i64 r.check)] [(0, a4), (1, a5), (5, a6), (7, a36), (9, a47), (11, a51), (12, .int .i64 r.check)] trivial ?_
       refine RP_nil <| n_then <| W_seq <| W_region <| RP_sg 3 [.p (.int .i64 r.check), .p (.bool (r.check != 0)), .p (.bool (r.check != 0))] [(0, a4), (1, a5), (5, a6), (7, a36), (9, a47), (11, a51), (72, .bool (r.check != 0))] trivial ?_
       refine RP_at (m' := [(0, a4), (1, a5), (5, a6), (7, a36), (9, a47), (11, a51), (72, .bool true)]) (by rw [hne2]) ?_
       refine RP_sg 11 [.no, .no, .no, .no, .no, .no, .no, .no, .no, .no, .p (.bool true)] [(0, a4), (1, a5), (5, a6), (7, a36), (9, a47), (11, a51), (83, .bool true)] trivial ?_
       refine RP_nil <| n_then <| W_true rfl ?_
       refine W_seq <| W_region <| RP_sg 1 [.p (.bool true)] [(6, .bool true)] trivial ?_
       refine RP_nil <| n_then <| W_ret <| r_mid <| ret_of (P := Tryd.prog) (fn := Tryd.f4) (m := [(6, .bool true)]) (w := w49) (res1 rfl (rv_tmp rfl)) ?_
       exact ⟨rfl, st50.ext⟩
      ·
       have st52 := st45.call0 hxI
       replace hI := hI.since st45.ext.size
       replace hA := hA.ext0 hxI
       replace hB := hB.ext0 hxI
       let a53 : Value := .slice dI ((inL L r).length) fI
       refine RP_sg 5 [.p (.tuple #[a53, .int .i64 0]), .p a53, .p (.int .i64 0), .p a53, .p (.int .i64 0)] [(0, a4), (1, a5), (5, a6), (7, a36), (9, a47), (11, a53), (12, .int .i64 0)] trivial ?_
       refine RP_nil <| n_then <| W_seq <| W_region <| RP_sg 7 [.p (.int .i64 0), .p (.bool false), .p (.bool false), .p (.pointer (some ⟨g5, 2, none⟩)), .l 4 (.pointer (some ⟨g5, 2, none⟩)) (.bool r.op), .p (.bool (!r.op)), .p (.bool (!r.op))] [(0, a4), (1, a5), (5, a6), (7, a36), (9, a47), (11, a53), (72, .bool false), (76, .bool (!r.op))] ⟨ld1 st52 nagg_4 3 rfl rfl, trivial⟩ ?_
       rcases Bool.eq_false_or_eq_true (!r.op) with c76_54 | c76_54
       ·
        refine RP_at (m' := [(0, a4), (1, a5), (5, a6), (7, a36), (9, a47), (11, a53), (72, .bool false), (76, .bool true)]) (by rw [c76_54]) ?_
        refine RP_sg 7 [.p a6, .l 9 a6 (.string r.lo), .p (.pointer (some ⟨g5, 1, none⟩)), .l 9 (.pointer (some ⟨g5, 1, none⟩)) (.string r.hi), .p (.bool ((r.lo).toList == (r.hi).toList)), .p (.bool ((r.lo).toList == (r.hi).toList)), .p (.bool ((r.lo).toList == (r.hi).toList))] [(0, a4), (1, a5), (5, a6), (7, a36), (9, a47), (11, a53), (83, .bool ((r.lo).toList == (r.hi).toList))] ⟨ld1 st52 nagg_9 3 rfl rfl, ld1 st52 nagg_9 3 rfl rfl, trivial⟩ ?_
        refine RP_nil <| n_then <| W_cond rfl (fun c83_55 => ?_) (fun c83_55 => ?_)
        ·
         refine W_seq <| W_region <| RP_sg 1 [.p (.bool true)] [(6, .bool true)] trivial ?_
         refine RP_nil <| n_then <| W_ret <| r_mid <| ret_of (P := Tryd.prog) (fn := Tryd.f4) (m := [(6, .bool true)]) (w := w49) (res1 rfl (rv_tmp rfl)) ?_
         exact ⟨rfl, st52.ext⟩
        ·
         refine W_skip ?_
         have hre : r.empty = false := by unfold Rng.empty; rw [hrc]; (try rw [hrr]); (try rw [hss]); (try rw [c38_17]); (try rw [c43_21]); (try rw [c47_25]); (try rw [c76_54]); (try rw [c83_55]); rfl
         refine n_mid ?_
         exact ⟨dI, fI, (by kernel_rfl), st52, hA, hB, hI, hrc, hre⟩
       ·
        refine RP_at (m' := [(0, a4), (1, a5), (5, a6), (7, a36), (9, a47), (11, a53), (72, .bool false), (76, .bool false)]) (by rw [c76_54]) ?_
        refine RP_sg 7 [.no, .no, .no, .no, .no, .p (.bool false), .p (.bool false)] [(0, a4), (1, a5), (5, a6), (7, a36), (9, a47), (11, a53), (83, .bool false)] trivial ?_
        refine RP_nil <| n_then <| W_false rfl ?_
        refine W_skip ?_
        have hre : r.empty = false := by unfold Rng.empty; rw [hrc]; (try rw [hrr]); (try rw [hss]); (try rw [c38_17]); (try rw [c43_21]); (try rw [c47_25]); (try rw [c76_54]); rfl
        refine n_mid ?_
        exact ⟨dI, fI, (by kernel_rfl), st52, hA, hB, hI, hrc, hre⟩
     rintro _ w57 ⟨dI, fI, hp58, st56, hA, hB, hI, hrc, hre⟩
     refine W_pick [0, 1, 5, 7, 9, 11] hp58 ?_
     have eL := T.load_list oL.srt
     have eK := T.load_list oK.srt
     have zL := T.load_size L
     have zK := T.load_size K
     obtain ⟨R, hR⟩ : ∃ R, rlackF (pairsL (inL K r) (inL L r)) = R := ⟨_, rfl⟩
     obtain ⟨HA, hHA⟩ : ∃ H, (⟨T.load L, 1099511627776, 0, 0⟩ : Hd).all R = H := ⟨_, rfl⟩
     obtain ⟨HB, hHB⟩ : ∃ H, (⟨T.load K, 1099511627776, 0, 0⟩ : Hd).all (inL L r) = H := ⟨_, rfl⟩
     have hM := met oL oK hl4 hl5 hR hHA hHB
     have ⟨oR, hRh, hRl⟩ := lack_ok oL oK hR
     have hrr : (!Rng.eq r r) = false := by rw [Rng.eq_refl]; rfl
     have hss := sameE_refl R
     refine W_mid (fun m_ w_ => ∃ (g14 g20 : Nat) (dK : Option Addr) (fK : Nat) (pA : Option Addr) (jA : Int) (pB : Option Addr) (jB : Int), pick m_ [0, 1, 5, 7, 9, 11, 14, 16, 20] = some [(0, a4), (1, a5), (5, a6), (7, a36), (9, a47), (11, .slice dI ((inL L r).length) fI), (14, .pointer (some ⟨g14, 0, none⟩)), (16, .slice dK ((inL K r).length) fK), (20, .pointer (some ⟨g20, 0, none⟩))] ∧ St [] w w_ [(g20, 52, [.int .i64 ((HA.tk : Nat) : Int), .int .i64 ((HA.rf : Nat) : Int)]), (g14, 52, [.int .i64 ((HB.tk : Nat) : Int), .int .i64 ((HB.rf : Nat) : Int)]), (g9, 39, [.pointer (some ⟨gB, 0, none⟩), .pointer (some ⟨gdB, 0, none⟩)]), (g7, 39, [.pointer (some ⟨gA, 0, none⟩), .pointer (some ⟨gdA, 0, none⟩)]), (gs, 22, [.slice b L.length c, .slice d K.length f]), (g5, 24, [.string r.lo, .string r.hi, .bool r.op])] ∧ Sto w_ gA bmA btA pA 4 HA.clock jA HA.t ∧ Sto w_ gB bmB btB pB 5 HB.clock jB HB.t ∧ Acc w [] w_ 61 5 (.slice dI (inL L r).length fI) (inL L r).length (entCells (inL L r)) ∧ Acc w [] w_ 61 5 (.slice dK (inL K r).length fK) (inL K r).length (entCells (inL K r))) [_, _, _, _, _, _] ?_ ?_
     ·
      change W _ _ _ (thenQ _ _ _ (thenQ _ _ _ (thenQ _ _ _ (thenQ _ _ _ (thenQ _ _ _ (thenQ _ _ _ (midQ _ _))))))) _ _
      refine W_region ?_
      let a59 : Value := .slice dI ((inL L r).length) fI
      let a60 : Value := .pointer (some ⟨gB, 0, none⟩)
      let a61 : Value := .agg #[.int .i64 2, .string r.lo, .string r.hi, .bool r.op, .int .i64 0, .int .u64 0, .int .u64 0, a59]
      refine RP_sg 5 [.p a47, .l 36 a47 a60, .l 24 a6 (.agg #[.string r.lo, .string r.hi, .bool r.op]), .p a59, .p a61] [(0, a4), (1, a5), (5, a6), (7, a36), (9, a47), (11, a59), (86, a60), (89, a61)] ⟨ld1 st56 nagg_36 0 rfl rfl, ldN st56 agg_24 3 rfl rfl rfl, trivial⟩ ?_
      refine RP_e rfl (ef_call (k := 17) (args := [a60, a61]) (Exchange_ok ⟨2, r, Tal.zero, inL L r, dI, fI⟩ (hl.ext st56.ext List.not_mem_nil) hB (by omega) (InS.of_own hI.own) (show (inL L r).length < 1000000 by omega) (hI.sep hB rfl) (part_ok (.inl rfl) rfl hrc hre oil (fun e he => by rw [inL_filter] at he; exact (List.mem_filter.1 he).2) (show (inL L r).length ≤ 256 by omega)) hHB (LE := R) ((lackE_eq (p := ⟨2, r, Tal.zero, inL L r, dI, fI⟩) rfl rfl (by rw [eK]; exact oK) hrc oil).trans (by rw [eK]; exact hR))) body_17 (by kernel_rfl)) ?_
      rintro _ w62 ⟨_, rfl, ⟨pB2, jB2, hB2⟩, hxE, h_⟩
      rcases h_ with ⟨hRe, dE, fE, rfl⟩ | ⟨hRn, dE, fE, eb, ec, rfl, hP, hR2⟩
      ·
       have st63 := st56.call hxE (st56.apartS hB rfl) nB
       replace hA := hA.other hB hxE hdA
       replace hI := hI.ext hxE (hI.apartS hB rfl)
       have hn0 : (!(true == (((R.length : Nat) : Int) == 0))) = false := by rw [hRe]; rfl
       replace hB := hB2
       let a64 : Value := .agg #[.int .i64 ((HB.tk : Nat) : Int), .int .i64 ((HB.rf : Nat) : Int)]
       refine RP_sg 4 [.p (.tuple #[.slice dE 0 fE, a64, .int .i64 0]), .p (.slice dE 0 fE), .p a64, .p (.int .i64 0)] [(0, a4), (1, a5), (5, a6), (7, a36), (9, a47), (11, a59), (91, .slice dE 0 fE), (92, a64), (93, .int .i64 0)] trivial ?_
       refine RP_e rfl (ef_alloc st63 zero_52 rfl) ?_
       rintro _ w65 ⟨g14, rfl, hg14, hg14', st66, hx67⟩
       replace st66 : St [] w w65 [(g14, 52, [.int .i64 0, .int .i64 0]), (g9, 39, [.pointer (some ⟨gB, 0, none⟩), .pointer (some ⟨gdB, 0, none⟩)]), (g7, 39, [.pointer (some ⟨gA, 0, none⟩), .pointer (some ⟨gdA, 0, none⟩)]), (gs, 22, [.slice b L.length c, .slice d K.length f]), (g5, 24, [.string r.lo, .string r.hi, .bool r.op])] := st66
       replace hA := hA.ext0 hx67
       replace hB := hB.ext0 hx67
       replace hI := hI.ext hx67 (by simp)
       let a68 : Value := .pointer (some ⟨g14, 0, none⟩)
       refine RP_sg 1 [.p (.slice dE 0 fE)] [(0, a4), (1, a5), (5, a6), (7, a36), (9, a47), (11, a59), (13, .slice dE 0 fE), (14, a68), (92, a64), (93, .int .i64 0)] trivial ?_
       refine RP_e rfl (ef_store st66 rfl rfl rfl size_52 0 rfl rfl rfl rfl (.inr hg14)) ?_
       rintro _ w69 ⟨rfl, st70, hx71⟩
       replace st70 : St [] w w69 [(g14, 52, [.int .i64 ((HB.tk : Nat) : Int), .int .i64 ((HB.rf : Nat) : Int)]), (g9, 39, [.pointer (some ⟨gB, 0, none⟩), .pointer (some ⟨gdB, 0, none⟩)]), (g7, 39, [.pointer (some ⟨gA, 0, none⟩), .pointer (some ⟨gdA, 0, none⟩)]), (gs, 22, [.slice b L.length c, .slice d K.length f]), (g5, 24, [.string r.lo, .string r.hi, .bool r.op])] := st70
       replace hA := hA.ext1 hx71 (st66.get 0 rfl) (by decide) (by decide) (by decide) (by decide)
       replace hB := hB.ext1 hx71 (st66.get 0 rfl) (by decide) (by decide) (by decide) (by decide)
       replace hI := hI.ext hx71 (hI.not_blk (st66.get 0 rfl) (by decide))
       refine RP_sg 1 [.p (.int .i64 0)] [(0, a4), (1, a5), (5, a6), (7, a36), (9, a47), (11, a59), (13, .slice dE 0 fE), (14, a68), (15, .int .i64 0)] trivial ?_
       refine RP_nil <| n_then <| W_seq <| W_region <| RP_sg 7 [.p (.int .i64 0), .p (.bool false), .p (.bool false), .p (.slice dE 0 fE), .p (.int .i64 0), .p (.bool false), .p (.bool false)] [(0, a4), (1, a5), (5, a6), (7, a36), (9, a47), (11, a59), (13, .slice dE 0 fE), (14, a68), (100, .bool false)] trivial ?_
       refine RP_nil <| n_then <| W_false rfl ?_
       refine W_skip <| n_then <| W_region ?_
       let a72 : Value := .agg #[.string r.lo, .string r.hi, .bool r.op]
       refine RP_sg 2 [.p a5, .l 24 a6 a72] [(0, a4), (1, a5), (5, a6), (7, a36), (9, a47), (11, a59), (13, .slice dE 0 fE), (14, a68), (102, a5), (103, a72)] ⟨ldN st70 agg_24 4 rfl rfl rfl, trivial⟩ ?_
       refine RP_e rfl (ef_call (k := 16) (args := [a5, a72]) (refIn_ok (hik.ext0 st70.ext) (by omega) oK hrc) body_16 (by kernel_rfl)) ?_
       rintro _ w73 ⟨_, rfl, dK, fK, rfl, hK2, hx75⟩
       have st74 := st70.call0 hx75
       replace hA := hA.ext0 hx75
       replace hB := hB.ext0 hx75
       replace hI := hI.ext hx75 (by simp)
       replace hK2 := hK2.since st70.ext.size
       let a76 : Value := .slice dK ((inL K r).length) fK
       refine RP_sg 5 [.p (.tuple #[a76, .int .i64 0]), .p a76, .p (.int .i64 0), .p a76, .p (.int .i64 0)] [(0, a4), (1, a5), (5, a6), (7, a36), (9, a47), (11, a59), (13, .slice dE 0 fE), (14, a68), (16, a76)] trivial ?_
       refine RP_nil <| n_then <| W_region <| RP_sg 2 [.p a76, .p a59] [(0, a4), (1, a5), (5, a6), (7, a36), (9, a47), (11, a59), (13, .slice dE 0 fE), (14, a68), (16, a76), (108, a76), (109, a59)] trivial ?_
       refine RP_e rfl (ef_call (k := 18) (args := [a76, a59]) (refLacks_ok (InS.of_own hK2.own) (InS.of_own hI.own) (by omega) (by omega) oik oil hR) body_18 (by kernel_rfl)) ?_
       rintro _ w77 ⟨_, rfl, dR, fR, rfl, hLk, hx79⟩
       have st78 := st74.call0 hx79
       replace hA := hA.ext0 hx79
       replace hB := hB.ext0 hx79
       replace hI := hI.ext hx79 (by simp)
       replace hK2 := hK2.ext hx79 (by simp)
       replace hLk := hLk.since st74.ext.size
       let a80 : Value := .slice dR R.length fR
       refine RP_sg 5 [.p (.tuple #[a80, .int .i64 0]), .p a80, .p (.int .i64 0), .p a80, .p (.int .i64 0)] [(0, a4), (1, a5), (5, a6), (7, a36), (9, a47), (11, a59), (13, .slice dE 0 fE), (14, a68), (16, a76), (18, a80)] trivial ?_
       refine RP_nil <| n_then <| W_region ?_
       let a81 : Value := .agg #[.int .i64 0, .int .i64 0]
       refine RP_sg 1 [.p a81] [(0, a4), (1, a5), (5, a6), (7, a36), (9, a47), (11, a59), (13, .slice dE 0 fE), (14, a68), (16, a76), (18, a80), (113, a81)] trivial ?_
       refine RP_e rfl (ef_alloc st78 zero_52 rfl) ?_
       rintro _ w82 ⟨g20, rfl, hg20, hg20', st83, hx84⟩
       replace st83 : St [] w w82 [(g20, 52, [.int .i64 0, .int .i64 0]), (g14, 52, [.int .i64 ((HB.tk : Nat) : Int), .int .i64 ((HB.rf : Nat) : Int)]), (g9, 39, [.pointer (some ⟨gB, 0, none⟩), .pointer (some ⟨gdB, 0, none⟩)]), (g7, 39, [.pointer (some ⟨gA, 0, none⟩), .pointer (some ⟨gdA, 0, none⟩)]), (gs, 22, [.slice b L.length c, .slice d K.length f]), (g5, 24, [.string r.lo, .string r.hi, .bool r.op])] := st83
       replace hA := hA.ext0 hx84
       replace hB := hB.ext0 hx84
       replace hI := hI.ext hx84 (by simp)
       replace hK2 := hK2.ext hx84 (by simp)
       replace hLk := hLk.ext hx84 (by simp)
       refine RP_e rfl (ef_store st83 rfl rfl rfl size_52 0 rfl rfl rfl rfl (.inr hg20)) ?_
       rintro _ w85 ⟨rfl, st86, hx87⟩
       replace st86 : St [] w w85 [(g20, 52, [.int .i64 0, .int .i64 0]), (g14, 52, [.int .i64 ((HB.tk : Nat) : Int), .int .i64 ((HB.rf : Nat) : Int)]), (g9, 39, [.pointer (some ⟨gB, 0, none⟩), .pointer (some ⟨gdB, 0, none⟩)]), (g7, 39, [.pointer (some ⟨gA, 0, none⟩), .pointer (some ⟨gdA, 0, none⟩)]), (gs, 22, [.slice b L.length c, .slice d K.length f]), (g5, 24, [.string r.lo, .string r.hi, .bool r.op])] := st86
       replace hA := hA.ext1 hx87 (st83.get 0 rfl) (by decide) (by decide) (by decide) (by decide)
       replace hB := hB.ext1 hx87 (st83.get 0 rfl) (by decide) (by decide) (by decide) (by decide)
       replace hI := hI.ext hx87 (hI.not_blk (st83.get 0 rfl) (by decide))
       replace hK2 := hK2.ext hx87 (hK2.not_blk (st83.get 0 rfl) (by decide))
       replace hLk := hLk.ext hx87 (hLk.not_blk (st83.get 0 rfl) (by decide))
       let a88 : Value := .pointer (some ⟨g20, 0, none⟩)
       refine RP_pk [(0, a4), (1, a5), (5, a6), (7, a36), (9, a47), (11, a59), (13, .slice dE 0 fE), (14, a68), (16, a76), (18, a80), (20, a88)] ?_
       refine RP_nil <| n_then <| W_seq <| W_region <| RP_sg 3 [.p (.slice dE 0 fE), .p (.int .i64 0), .p (.bool false)] [(0, a4), (1, a5), (5, a6), (7, a36), (9, a47), (11, a59), (13, .slice dE 0 fE), (14, a68), (16, a76), (18, a80), (20, a88), (116, .bool false)] trivial ?_
       refine RP_nil <| n_then <| W_false rfl ?_
       refine W_skip <| n_then <| W_seq <| W_region <| RP_sg 7 [.p (.slice dE 0 fE), .p (.int .i64 0), .p (.bool true), .p a80, .p (.int .i64 ((R.length : Nat) : Int)), .p (.bool (((R.length : Nat) : Int) == 0)), .p (.bool (!(true == (((R.length : Nat) : Int) == 0))))] [(0, a4), (1, a5), (5, a6), (7, a36), (9, a47), (11, a59), (14, a68), (16, a76), (20, a88), (163, .bool (!(true == (((R.length : Nat) : Int) == 0))))] trivial ?_
       refine RP_nil <| n_then <| W_false' rfl hn0 ?_
       refine W_skip ?_
       rw [hRe] at hHA
       have hA0 : HA = ⟨T.load L, 1099511627776, 0, 0⟩ := hHA.symm
       refine n_mid ?_
       exact ⟨g14, g20, dK, fK, pA, jA, pB2, jB2, (by kernel_rfl), (by rw [hA0]; exact st86), (by rw [hA0]; exact hA), hB, hI, hK2⟩
      ·
       have st89 := st56.call hxE (st56.apartS hB rfl) nB
       replace hA := hA.other hB hxE hdA
       replace hI := hI.ext hxE (hI.apartS hB rfl)
       replace hP := hP.since st56.ext.size
       replace hR2 := hR2.since st56.ext.size
       have hn0 : (!(false == (((R.length : Nat) : Int) == 0))) = false := by rw [show (((R.length : Nat) : Int) == 0) = false from by simpa using hRn]; rfl
       replace hB := hB2
       let a90 : Value := .agg #[.int .i64 ((HB.tk : Nat) : Int), .int .i64 ((HB.rf : Nat) : Int)]
       refine RP_sg 4 [.p (.tuple #[.slice dE 1 fE, a90, .int .i64 0]), .p (.slice dE 1 fE), .p a90, .p (.int .i64 0)] [(0, a4), (1, a5), (5, a6), (7, a36), (9, a47), (11, a59), (91, .slice dE 1 fE), (92, a90), (93, .int .i64 0)] trivial ?_
       refine RP_e rfl (ef_alloc st89 zero_52 rfl) ?_
       rintro _ w91 ⟨g14, rfl, hg14, hg14', st92, hx93⟩
       replace st92 : St [] w w91 [(g14, 52, [.int .i64 0, .int .i64 0]), (g9, 39, [.pointer (some ⟨gB, 0, none⟩), .pointer (some ⟨gdB, 0, none⟩)]), (g7, 39, [.pointer (some ⟨gA, 0, none⟩), .pointer (some ⟨gdA, 0, none⟩)]), (gs, 22, [.slice b L.length c, .slice d K.length f]), (g5, 24, [.string r.lo, .string r.hi, .bool r.op])] := st92
       replace hA := hA.ext0 hx93
       replace hB := hB.ext0 hx93
       replace hI := hI.ext hx93 (by simp)
       replace hP := hP.ext hx93 (by simp)
       replace hR2 := hR2.ext hx93 (by simp)
       let a94 : Value := .pointer (some ⟨g14, 0, none⟩)
       refine RP_sg 1 [.p (.slice dE 1 fE)] [(0, a4), (1, a5), (5, a6), (7, a36), (9, a47), (11, a59), (13, .slice dE 1 fE), (14, a94), (92, a90), (93, .int .i64 0)] trivial ?_
       refine RP_e rfl (ef_store st92 rfl rfl rfl size_52 0 rfl rfl rfl rfl (.inr hg14)) ?_
       rintro _ w95 ⟨rfl, st96, hx97⟩
       replace st96 : St [] w w95 [(g14, 52, [.int .i64 ((HB.tk : Nat) : Int), .int .i64 ((HB.rf : Nat) : Int)]), (g9, 39, [.pointer (some ⟨gB, 0, none⟩), .pointer (some ⟨gdB, 0, none⟩)]), (g7, 39, [.pointer (some ⟨gA, 0, none⟩), .pointer (some ⟨gdA, 0, none⟩)]), (gs, 22, [.slice b L.length c, .slice d K.length f]), (g5, 24, [.string r.lo, .string r.hi, .bool r.op])] := st96
       replace hA := hA.ext1 hx97 (st92.get 0 rfl) (by decide) (by decide) (by decide) (by decide)
       replace hB := hB.ext1 hx97 (st92.get 0 rfl) (by decide) (by decide) (by decide) (by decide)
       replace hI := hI.ext hx97 (hI.not_blk (st92.get 0 rfl) (by decide))
       replace hP := hP.ext hx97 (hP.not_blk (st92.get 0 rfl) (by decide))
       replace hR2 := hR2.ext hx97 (hR2.not_blk (st92.get 0 rfl) (by decide))
       refine RP_sg 1 [.p (.int .i64 0)] [(0, a4), (1, a5), (5, a6), (7, a36), (9, a47), (11, a59), (13, .slice dE 1 fE), (14, a94), (15, .int .i64 0)] trivial ?_
       refine RP_nil <| n_then <| W_seq <| W_region <| RP_sg 7 [.p (.int .i64 0), .p (.bool false), .p (.bool false), .p (.slice dE 1 fE), .p (.int .i64 1), .p (.bool false), .p (.bool false)] [(0, a4), (1, a5), (5, a6), (7, a36), (9, a47), (11, a59), (13, .slice dE 1 fE), (14, a94), (100, .bool false)] trivial ?_
       refine RP_nil <| n_then <| W_false rfl ?_
       refine W_skip <| n_then <| W_region ?_
       let a98 : Value := .agg #[.string r.lo, .string r.hi, .bool r.op]
       refine RP_sg 2 [.p a5, .l 24 a6 a98] [(0, a4), (1, a5), (5, a6), (7, a36), (9, a47), (11, a59), (13, .slice dE 1 fE), (14, a94), (102, a5), (103, a98)] ⟨ldN st96 agg_24 4 rfl rfl rfl, trivial⟩ ?_
       refine RP_e rfl (ef_call (k := 16) (args := [a5, a98]) (refIn_ok (hik.ext0 st96.ext) (by omega) oK hrc) body_16 (by kernel_rfl)) ?_
       rintro _ w99 ⟨_, rfl, dK, fK, rfl, hK2, hx101⟩
       have st100 := st96.call0 hx101
       replace hA := hA.ext0 hx101
       replace hB := hB.ext0 hx101
       replace hI := hI.ext hx101 (by simp)
       replace hP := hP.ext hx101 (by simp)
       replace hR2 := hR2.ext hx101 (by simp)
       replace hK2 := hK2.since st96.ext.size
       let a102 : Value := .slice dK ((inL K r).length) fK
       refine RP_sg 5 [.p (.tuple #[a102, .int .i64 0]), .p a102, .p (.int .i64 0), .p a102, .p (.int .i64 0)] [(0, a4), (1, a5), (5, a6), (7, a36), (9, a47), (11, a59), (13, .slice dE 1 fE), (14, a94), (16, a102)] trivial ?_
       refine RP_nil <| n_then <| W_region <| RP_sg 2 [.p a102, .p a59] [(0, a4), (1, a5), (5, a6), (7, a36), (9, a47), (11, a59), (13, .slice dE 1 fE), (14, a94), (16, a102), (108, a102), (109, a59)] trivial ?_
       refine RP_e rfl (ef_call (k := 18) (args := [a102, a59]) (refLacks_ok (InS.of_own hK2.own) (InS.of_own hI.own) (by omega) (by omega) oik oil hR) body_18 (by kernel_rfl)) ?_
       rintro _ w103 ⟨_, rfl, dR, fR, rfl, hLk, hx105⟩
       have st104 := st100.call0 hx105
       replace hA := hA.ext0 hx105
       replace hB := hB.ext0 hx105
       replace hI := hI.ext hx105 (by simp)
       replace hP := hP.ext hx105 (by simp)
       replace hR2 := hR2.ext hx105 (by simp)
       replace hK2 := hK2.ext hx105 (by simp)
       replace hLk := hLk.since st100.ext.size
       let a106 : Value := .slice dR R.length fR
       refine RP_sg 5 [.p (.tuple #[a106, .int .i64 0]), .p a106, .p (.int .i64 0), .p a106, .p (.int .i64 0)] [(0, a4), (1, a5), (5, a6), (7, a36), (9, a47), (11, a59), (13, .slice dE 1 fE), (14, a94), (16, a102), (18, a106)] trivial ?_
       refine RP_nil <| n_then <| W_region ?_
       let a107 : Value := .agg #[.int .i64 0, .int .i64 0]
       refine RP_sg 1 [.p a107] [(0, a4), (1, a5), (5, a6), (7, a36), (9, a47), (11, a59), (13, .slice dE 1 fE), (14, a94), (16, a102), (18, a106), (113, a107)] trivial ?_
       refine RP_e rfl (ef_alloc st104 zero_52 rfl) ?_
       rintro _ w108 ⟨g20, rfl, hg20, hg20', st109, hx110⟩
       replace st109 : St [] w w108 [(g20, 52, [.int .i64 0, .int .i64 0]), (g14, 52, [.int .i64 ((HB.tk : Nat) : Int), .int .i64 ((HB.rf : Nat) : Int)]), (g9, 39, [.pointer (some ⟨gB, 0, none⟩), .pointer (some ⟨gdB, 0, none⟩)]), (g7, 39, [.pointer (some ⟨gA, 0, none⟩), .pointer (some ⟨gdA, 0, none⟩)]), (gs, 22, [.slice b L.length c, .slice d K.length f]), (g5, 24, [.string r.lo, .string r.hi, .bool r.op])] := st109
       replace hA := hA.ext0 hx110
       replace hB := hB.ext0 hx110
       replace hI := hI.ext hx110 (by simp)
       replace hP := hP.ext hx110 (by simp)
       replace hR2 := hR2.ext hx110 (by simp)
       replace hK2 := hK2.ext hx110 (by simp)
       replace hLk := hLk.ext hx110 (by simp)
       refine RP_e rfl (ef_store st109 rfl rfl rfl size_52 0 rfl rfl rfl rfl (.inr hg20)) ?_
       rintro _ w111 ⟨rfl, st112, hx113⟩
       replace st112 : St [] w w111 [(g20, 52, [.int .i64 0, .int .i64 0]), (g14, 52, [.int .i64 ((HB.tk : Nat) : Int), .int .i64 ((HB.rf : Nat) : Int)]), (g9, 39, [.pointer (some ⟨gB, 0, none⟩), .pointer (some ⟨gdB, 0, none⟩)]), (g7, 39, [.pointer (some ⟨gA, 0, none⟩), .pointer (some ⟨gdA, 0, none⟩)]), (gs, 22, [.slice b L.length c, .slice d K.length f]), (g5, 24, [.string r.lo, .string r.hi, .bool r.op])] := st112
       replace hA := hA.ext1 hx113 (st109.get 0 rfl) (by decide) (by decide) (by decide) (by decide)
       replace hB := hB.ext1 hx113 (st109.get 0 rfl) (by decide) (by decide) (by decide) (by decide)
       replace hI := hI.ext hx113 (hI.not_blk (st109.get 0 rfl) (by decide))
       replace hP := hP.ext hx113 (hP.not_blk (st109.get 0 rfl) (by decide))
       replace hR2 := hR2.ext hx113 (hR2.not_blk (st109.get 0 rfl) (by decide))
       replace hK2 := hK2.ext hx113 (hK2.not_blk (st109.get 0 rfl) (by decide))
       replace hLk := hLk.ext hx113 (hLk.not_blk (st109.get 0 rfl) (by decide))
       let a114 : Value := .pointer (some ⟨g20, 0, none⟩)
       refine RP_pk [(0, a4), (1, a5), (5, a6), (7, a36), (9, a47), (11, a59), (13, .slice dE 1 fE), (14, a94), (16, a102), (18, a106), (20, a114)] ?_
       refine RP_nil <| n_then <| W_seq <| W_region <| RP_sg 3 [.p (.slice dE 1 fE), .p (.int .i64 1), .p (.bool true)] [(0, a4), (1, a5), (5, a6), (7, a36), (9, a47), (11, a59), (13, .slice dE 1 fE), (14, a94), (16, a102), (18, a106), (20, a114), (116, .bool true)] trivial ?_
       refine RP_nil <| n_then <| W_true rfl ?_
       refine W_seq <| W_seq <| W_regionS ⟨(fun w' => Blk w' g5 24 [.string r.lo, .string r.hi, .bool r.op].toArray ∧ InS w' dE (prtCells [⟨3, r, Tal.zero, R, eb, ec⟩])), (fun _ => True)⟩ (.cons 1 0 (.cons 1 1 (.cons 1 2 (.cons 1 3 (.cons 1 4 (.cons 1 5 (.cons 1 6 (.cons 1 7 (.cons 1 8 (.cons 1 9 (.cons 1 10 (.cons 1 11 (.cons 1 12 (.cons 1 13 (.cons 1 14 (.cons 1 15 (.cons 1 16 (.cons 1 17 (.cons 1 18 (.cons 2 19 (.cons 1 20 (.cons 1 21 .nil)))))))))))))))))))))) 22 (by kernel_rfl) (by kernel_rfl) ?_
       have st115 := st112.drew
       replace hA := hA.ext0 (Ext.refl [] _).drew
       replace hB := hB.ext0 (Ext.refl [] _).drew
       replace hI := hI.drew
       replace hP := hP.drew
       replace hR2 := hR2.drew
       replace hK2 := hK2.drew
       replace hLk := hLk.drew
       refine RS_sg 1 [.p (.slice dE 1 fE)] [(0, a4), (1, a5), (5, a6), (7, a36), (9, a47), (11, a59), (13, .slice dE 1 fE), (14, a94), (16, a102), (18, a106), (20, a114), (117, .slice dE 1 fE)] (⟨st115.get 5 rfl, (InS.of_own hP.own)⟩) (fun _ hS => trivial) ?_
       refine RS_q rfl rfl (⟨st115.get 5 rfl, (InS.of_own hP.own)⟩) (v := .pointer (some ⟨(sp dE), so dE + 0 * 8, none⟩)) (fun _ _ => ev_indexI (i := 0) idxPart rfl rfl ((InS.of_own hP.own).some_ (by rw [prtCells_len]; exact (by decide : 0 < 8))) (by decide)) ?_
       refine RS_sg 5 [.p (.pointer (some ⟨(sp dE), so dE + 0 * 8, none⟩)), .l 3 (.pointer (some ⟨(sp dE), so dE + 0 * 8, none⟩)) (.int .i64 3), .p (.bool false), .p (.bool false), .p (.slice dE 1 fE)] [(0, a4), (1, a5), (5, a6), (7, a36), (9, a47), (11, a59), (13, .slice dE 1 fE), (14, a94), (16, a102), (18, a106), (20, a114), (122, .bool false), (123, .slice dE 1 fE)] (⟨st115.get 5 rfl, (InS.of_own hP.own)⟩) (fun _ hS => ⟨(InS.load1 (o := 0 * 8) nagg_3 (hS.2) rfl), trivial⟩) ?_
       refine RS_gq rfl rfl rfl (⟨st115.get 5 rfl, (InS.of_own hP.own)⟩) (v := .pointer (some ⟨(sp dE), so dE + 0 * 8, none⟩)) (fun _ _ => ev_indexI (i := 0) idxPart rfl rfl ((InS.of_own hP.own).some_ (by rw [prtCells_len]; exact (by decide : 0 < 8))) (by decide)) ?_
       refine RS_sg 3 [.p (.pointer (some ⟨(sp dE), so dE + 0 * 8 + 1, none⟩)), .l 24 (.pointer (some ⟨(sp dE), so dE + 0 * 8 + 1, none⟩)) a98, .l 24 a6 a98] [(0, a4), (1, a5), (5, a6), (7, a36), (9, a47), (11, a59), (13, .slice dE 1 fE), (14, a94), (16, a102), (18, a106), (20, a114), (122, .bool false), (126, a98), (127, a98)] (⟨st115.get 5 rfl, (InS.of_own hP.own)⟩) (fun _ hS => ⟨(InS.loadNf (o := 0 * 8) (k := 1) agg_24 (hS.2) rfl rfl (by decide)), ldNb (hS.1) agg_24 rfl rfl, trivial⟩) ?_
       refine RS_gq rfl rfl rfl (⟨st115.get 5 rfl, (InS.of_own hP.own)⟩) (v := .bool (!Rng.eq r r)) (fun _ _ => ev_neq (eqRng r r) (by decide) (by kernel_rfl) rfl rfl) ?_
       refine RS_sg 2 [.p (.bool (!Rng.eq r r)), .p (.bool (!Rng.eq r r))] [(0, a4), (1, a5), (5, a6), (7, a36), (9, a47), (11, a59), (13, .slice dE 1 fE), (14, a94), (16, a102), (18, a106), (20, a114), (130, .bool (!Rng.eq r r))] (⟨st115.get 5 rfl, (InS.of_own hP.own)⟩) (fun _ hS => trivial) ?_
       refine RS_at (m' := [(0, a4), (1, a5), (5, a6), (7, a36), (9, a47), (11, a59), (13, .slice dE 1 fE), (14, a94), (16, a102), (18, a106), (20, a114), (130, .bool false)]) (by rw [hrr]) ?_
       refine RS_sg 1 [.p (.slice dE 1 fE)] [(0, a4), (1, a5), (5, a6), (7, a36), (9, a47), (11, a59), (13, .slice dE 1 fE), (14, a94), (16, a102), (18, a106), (20, a114), (130, .bool false), (131, .slice dE 1 fE)] (⟨st115.get 5 rfl, (InS.of_own hP.own)⟩) (fun _ hS => trivial) ?_
       refine RS_gq rfl rfl rfl (⟨st115.get 5 rfl, (InS.of_own hP.own)⟩) (v := .pointer (some ⟨(sp dE), so dE + 0 * 8, none⟩)) (fun _ _ => ev_indexI (i := 0) idxPart rfl rfl ((InS.of_own hP.own).some_ (by rw [prtCells_len]; exact (by decide : 0 < 8))) (by decide)) ?_
       let a116 : Value := .slice eb R.length ec
       refine RS_sg 3 [.p (.pointer (some ⟨(sp dE), so dE + 0 * 8 + 7, none⟩)), .l 22 (.pointer (some ⟨(sp dE), so dE + 0 * 8 + 7, none⟩)) a116, .p a106] [(0, a4), (1, a5), (5, a6), (7, a36), (9, a47), (11, a59), (13, .slice dE 1 fE), (14, a94), (16, a102), (18, a106), (20, a114), (130, .bool false), (134, a116), (135, a106)] (⟨st115.get 5 rfl, (InS.of_own hP.own)⟩) (fun _ hS => ⟨(InS.load1f (o := 0 * 8) (k := 7) nagg_22 (hS.2) rfl), trivial⟩) ?_
       refine RS_ge rfl rfl rfl (ef_call (k := 19) (args := [a116, a106]) (same_cr R R (InS.of_own hR2.own) (InS.of_own hLk.own) (by omega)) body_19 (by kernel_rfl)) ?_
       rintro _ w117 ⟨_, rfl, rfl, hx119⟩
       have st118 := st115.call0 hx119
       replace hA := hA.ext0 hx119
       replace hB := hB.ext0 hx119
       replace hI := hI.ext hx119 (by simp)
       replace hP := hP.ext hx119 (by simp)
       replace hR2 := hR2.ext hx119 (by simp)
       replace hK2 := hK2.ext hx119 (by simp)
       replace hLk := hLk.ext hx119 (by simp)
       refine ⟨⟨st118.get 5 rfl, (InS.of_own hP.own)⟩, ?_⟩
       refine RS_sg 2 [.p (.bool (!(sameE R R))), .p (.bool (!(sameE R R)))] [(0, a4), (1, a5), (5, a6), (7, a36), (9, a47), (11, a59), (13, .slice dE 1 fE), (14, a94), (16, a102), (18, a106), (20, a114), (138, .bool (!(sameE R R)))] (⟨st118.get 5 rfl, (InS.of_own hP.own)⟩) (fun _ hS => trivial) ?_
       refine RS_nil <| n_then ?_
       have cn120 : (!(sameE R R)) = false := by rw [hss]; rfl
       refine W_false' rfl cn120 ?_
       refine W_skip <| n_then <| W_seq <| W_regionS ⟨(fun w' => Blk w' g7 39 [.pointer (some ⟨gA, 0, none⟩), .pointer (some ⟨gdA, 0, none⟩)].toArray ∧ InS w' dE (prtCells [⟨3, r, Tal.zero, R, eb, ec⟩])), (fun _ => True)⟩ (.cons 1 0 (.cons 1 1 (.cons 1 2 (.cons 1 3 (.cons 1 4 (.fork (.cons 2 5 (.cons 1 6 (.cons 1 7 (.cons 1 8 (.cons 1 9 (.cons 2 10 (.cons 1 11 (.cons 2 12 (.cons 1 13 .nil))))))))) (.cons 2 10 (.cons 2 5 (.cons 1 6 (.cons 1 7 (.cons 1 8 (.cons 1 9 (.cons 1 11 (.cons 2 12 (.cons 1 13 .nil))))))))))))))) 14 (by kernel_rfl) (by kernel_rfl) ?_
       have st121 := st118.drew
       replace hA := hA.ext0 (Ext.refl [] _).drew
       replace hB := hB.ext0 (Ext.refl [] _).drew
       replace hI := hI.drew
       replace hP := hP.drew
       replace hR2 := hR2.drew
       replace hK2 := hK2.drew
       replace hLk := hLk.drew
       let a122 : Value := .pointer (some ⟨gA, 0, none⟩)
       refine RS_sg 3 [.p a36, .l 36 a36 a122, .p (.slice dE 1 fE)] [(0, a4), (1, a5), (5, a6), (7, a36), (9, a47), (11, a59), (13, .slice dE 1 fE), (14, a94), (16, a102), (18, a106), (20, a114), (141, a122), (142, .slice dE 1 fE)] (⟨st121.get 3 rfl, (InS.of_own hP.own)⟩) (fun _ hS => ⟨ld1b (hS.1) nagg_36 rfl, trivial⟩) ?_
       refine RS_q rfl rfl (⟨st121.get 3 rfl, (InS.of_own hP.own)⟩) (v := .pointer (some ⟨(sp dE), so dE + 0 * 8, none⟩)) (fun _ _ => ev_indexI (i := 0) idxPart rfl rfl ((InS.of_own hP.own).some_ (by rw [prtCells_len]; exact (by decide : 0 < 8))) (by decide)) ?_
       let a123 : Value := .agg #[.int .i64 3, .string r.lo, .string r.hi, .bool r.op, .int .i64 0, .int .u64 0, .int .u64 0, a116]
       refine RS_sg 1 [.l 34 (.pointer (some ⟨(sp dE), so dE + 0 * 8, none⟩)) a123] [(0, a4), (1, a5), (5, a6), (7, a36), (9, a47), (11, a59), (13, .slice dE 1 fE), (14, a94), (16, a102), (18, a106), (20, a114), (141, a122), (144, a123)] (⟨st121.get 3 rfl, (InS.of_own hP.own)⟩) (fun _ hS => ⟨(InS.loadN (o := 0 * 8) agg_34 (hS.2) rfl rfl (by decide)), trivial⟩) ?_
       refine RS_fork ?_ ?_
       ·
        have hB9 := hB
        refine RS_e rfl rfl (ef_call (k := 17) (args := [a122, a123]) (Exchange_reply ⟨3, r, Tal.zero, R, eb, ec⟩ (hl.ext st121.ext List.not_mem_nil) hA (by omega) (InS.of_own hR2.own) (show R.length < 1000000 by omega) (hR2.sep hA rfl) (part_ok (.inr ⟨rfl, hRn⟩) rfl hrc hre oR hRh (show R.length ≤ 256 by omega)) rfl hHA) body_17 (by kernel_rfl)) ?_
        rintro _ w124 ⟨_, rfl, dZ, fZ, rfl, ⟨pA2, jA2, hA2⟩, hx126⟩
        have st125 := st121.call hx126 (st121.apartS hA rfl) nA
        replace hI := hI.ext hx126 (hI.apartS hA rfl)
        replace hP := hP.ext hx126 (hP.apartS hA rfl)
        replace hR2 := hR2.ext hx126 (hR2.apartS hA rfl)
        replace hK2 := hK2.ext hx126 (hK2.apartS hA rfl)
        replace hLk := hLk.ext hx126 (hLk.apartS hA rfl)
        replace hB := hB9.other hA hx126 hdB
        replace hA := hA2
        refine ⟨⟨st125.get 3 rfl, (InS.of_own hP.own)⟩, ?_⟩
        let a127 : Value := .agg #[.int .i64 ((HA.tk : Nat) : Int), .int .i64 ((HA.rf : Nat) : Int)]
        refine RS_sg 4 [.p (.tuple #[.slice dZ 0 fZ, a127, .int .i64 0]), .p (.slice dZ 0 fZ), .p a127, .p (.int .i64 0)] [(0, a4), (1, a5), (5, a6), (7, a36), (9, a47), (11, a59), (13, .slice dE 1 fE), (14, a94), (16, a102), (18, a106), (20, a114), (146, .slice dZ 0 fZ), (147, a127), (148, .int .i64 0)] (⟨st125.get 3 rfl, (InS.of_own hP.own)⟩) (fun _ hS => trivial) ?_
        refine RS_e rfl rfl (ef_alloc st125 zero_52 rfl) ?_
        rintro _ w128 ⟨g22, rfl, hg22, hg22', st129, hx130⟩
        replace st129 : St [] w w128 [(g22, 52, [.int .i64 0, .int .i64 0]), (g20, 52, [.int .i64 0, .int .i64 0]), (g14, 52, [.int .i64 ((HB.tk : Nat) : Int), .int .i64 ((HB.rf : Nat) : Int)]), (g9, 39, [.pointer (some ⟨gB, 0, none⟩), .pointer (some ⟨gdB, 0, none⟩)]), (g7, 39, [.pointer (some ⟨gA, 0, none⟩), .pointer (some ⟨gdA, 0, none⟩)]), (gs, 22, [.slice b L.length c, .slice d K.length f]), (g5, 24, [.string r.lo, .string r.hi, .bool r.op])] := st129
        replace hA := hA.ext0 hx130
        replace hB := hB.ext0 hx130
        replace hI := hI.ext hx130 (by simp)
        replace hP := hP.ext hx130 (by simp)
        replace hR2 := hR2.ext hx130 (by simp)
        replace hK2 := hK2.ext hx130 (by simp)
        replace hLk := hLk.ext hx130 (by simp)
        refine ⟨⟨st129.get 4 rfl, (InS.of_own hP.own)⟩, ?_⟩
        let a131 : Value := .pointer (some ⟨g22, 0, none⟩)
        refine RS_sg 1 [.p (.slice dZ 0 fZ)] [(0, a4), (1, a5), (5, a6), (7, a36), (9, a47), (11, a59), (13, .slice dE 1 fE), (14, a94), (16, a102), (18, a106), (20, a114), (21, .slice dZ 0 fZ), (22, a131), (147, a127), (148, .int .i64 0)] (⟨st129.get 4 rfl, (InS.of_own hP.own)⟩) (fun _ hS => trivial) ?_
        refine RS_e rfl rfl (ef_store st129 rfl rfl rfl size_52 0 rfl rfl rfl rfl (.inr hg22)) ?_
        rintro _ w132 ⟨rfl, st133, hx134⟩
        replace st133 : St [] w w132 [(g22, 52, [.int .i64 ((HA.tk : Nat) : Int), .int .i64 ((HA.rf : Nat) : Int)]), (g20, 52, [.int .i64 0, .int .i64 0]), (g14, 52, [.int .i64 ((HB.tk : Nat) : Int), .int .i64 ((HB.rf : Nat) : Int)]), (g9, 39, [.pointer (some ⟨gB, 0, none⟩), .pointer (some ⟨gdB, 0, none⟩)]), (g7, 39, [.pointer (some ⟨gA, 0, none⟩), .pointer (some ⟨gdA, 0, none⟩)]), (gs, 22, [.slice b L.length c, .slice d K.length f]), (g5, 24, [.string r.lo, .string r.hi, .bool r.op])] := st133
        replace hA := hA.ext1 hx134 (st129.get 0 rfl) (by decide) (by decide) (by decide) (by decide)
        replace hB := hB.ext1 hx134 (st129.get 0 rfl) (by decide) (by decide) (by decide) (by decide)
        replace hI := hI.ext hx134 (hI.not_blk (st129.get 0 rfl) (by decide))
        replace hP := hP.ext hx134 (hP.not_blk (st129.get 0 rfl) (by decide))
        replace hR2 := hR2.ext hx134 (hR2.not_blk (st129.get 0 rfl) (by decide))
        replace hK2 := hK2.ext hx134 (hK2.not_blk (st129.get 0 rfl) (by decide))
        replace hLk := hLk.ext hx134 (hLk.not_blk (st129.get 0 rfl) (by decide))
        refine ⟨⟨st133.get 4 rfl, (InS.of_own hP.own)⟩, ?_⟩
        refine RS_sg 1 [.p (.int .i64 0)] [(0, a4), (1, a5), (5, a6), (7, a36), (9, a47), (11, a59), (13, .slice dE 1 fE), (14, a94), (16, a102), (18, a106), (20, a114), (21, .slice dZ 0 fZ), (22, a131), (23, .int .i64 0)] (⟨st133.get 4 rfl, (InS.of_own hP.own)⟩) (fun _ hS => trivial) ?_
        refine RS_nil <| n_then <| W_seq <| W_seq <| W_region <| RP_sg 7 [.p (.int .i64 0), .p (.bool false), .p (.bool false), .p (.slice dZ 0 fZ), .p (.int .i64 0), .p (.bool false), .p (.bool false)] [(0, a4), (1, a5), (5, a6), (7, a36), (9, a47), (11, a59), (13, .slice dE 1 fE), (14, a94), (16, a102), (18, a106), (20, a114), (22, a131), (155, .bool false)] trivial ?_
        refine RP_nil <| n_then <| W_false rfl ?_
        refine W_skip <| n_then <| W_region <| RP_sg 1 [.l 52 a131 a127] [(0, a4), (1, a5), (5, a6), (7, a36), (9, a47), (11, a59), (13, .slice dE 1 fE), (14, a94), (16, a102), (18, a106), (20, a114), (156, a127)] ⟨ldN st133 agg_52 0 rfl rfl rfl, trivial⟩ ?_
        refine RP_e rfl (ef_store st133 rfl rfl rfl size_52 1 rfl rfl rfl rfl (.inr hg20)) ?_
        rintro _ w135 ⟨rfl, st136, hx137⟩
        replace st136 : St [] w w135 [(g22, 52, [.int .i64 ((HA.tk : Nat) : Int), .int .i64 ((HA.rf : Nat) : Int)]), (g20, 52, [.int .i64 ((HA.tk : Nat) : Int), .int .i64 ((HA.rf : Nat) : Int)]), (g14, 52, [.int .i64 ((HB.tk : Nat) : Int), .int .i64 ((HB.rf : Nat) : Int)]), (g9, 39, [.pointer (some ⟨gB, 0, none⟩), .pointer (some ⟨gdB, 0, none⟩)]), (g7, 39, [.pointer (some ⟨gA, 0, none⟩), .pointer (some ⟨gdA, 0, none⟩)]), (gs, 22, [.slice b L.length c, .slice d K.length f]), (g5, 24, [.string r.lo, .string r.hi, .bool r.op])] := st136
        replace hA := hA.ext1 hx137 (st133.get 1 rfl) (by decide) (by decide) (by decide) (by decide)
        replace hB := hB.ext1 hx137 (st133.get 1 rfl) (by decide) (by decide) (by decide) (by decide)
        replace hI := hI.ext hx137 (hI.not_blk (st133.get 1 rfl) (by decide))
        replace hP := hP.ext hx137 (hP.not_blk (st133.get 1 rfl) (by decide))
        replace hR2 := hR2.ext hx137 (hR2.not_blk (st133.get 1 rfl) (by decide))
        replace hK2 := hK2.ext hx137 (hK2.not_blk (st133.get 1 rfl) (by decide))
        replace hLk := hLk.ext hx137 (hLk.not_blk (st133.get 1 rfl) (by decide))
        refine RP_pk [(0, a4), (1, a5), (5, a6), (7, a36), (9, a47), (11, a59), (13, .slice dE 1 fE), (14, a94), (16, a102), (18, a106), (20, a114)] ?_
        refine RP_nil <| n_then <| W_seq <| W_region <| RP_sg 7 [.p (.slice dE 1 fE), .p (.int .i64 1), .p (.bool false), .p a106, .p (.int .i64 ((R.length : Nat) : Int)), .p (.bool (((R.length : Nat) : Int) == 0)), .p (.bool (!(false == (((R.length : Nat) : Int) == 0))))] [(0, a4), (1, a5), (5, a6), (7, a36), (9, a47), (11, a59), (14, a94), (16, a102), (20, a114), (163, .bool (!(false == (((R.length : Nat) : Int) == 0))))] trivial ?_
        refine RP_nil <| n_then <| W_false' rfl hn0 ?_
        refine W_skip <| n_mid ?_
        exact ⟨g14, g20, dK, fK, pA2, jA2, pB2, jB2, (by kernel_rfl), (st136.sub [] (List.sublist_cons_self _ _)), hA, hB, hI, hK2⟩
       ·
        refine RS_e rfl rfl (ef_alloc st121 zero_52 rfl) ?_
        rintro _ w138 ⟨g22, rfl, hg22, hg22', st139, hx140⟩
        replace st139 : St [] w w138 [(g22, 52, [.int .i64 0, .int .i64 0]), (g20, 52, [.int .i64 0, .int .i64 0]), (g14, 52, [.int .i64 ((HB.tk : Nat) : Int), .int .i64 ((HB.rf : Nat) : Int)]), (g9, 39, [.pointer (some ⟨gB, 0, none⟩), .pointer (some ⟨gdB, 0, none⟩)]), (g7, 39, [.pointer (some ⟨gA, 0, none⟩), .pointer (some ⟨gdA, 0, none⟩)]), (gs, 22, [.slice b L.length c, .slice d K.length f]), (g5, 24, [.string r.lo, .string r.hi, .bool r.op])] := st139
        replace hA := hA.ext0 hx140
        replace hB := hB.ext0 hx140
        replace hI := hI.ext hx140 (by simp)
        replace hP := hP.ext hx140 (by simp)
        replace hR2 := hR2.ext hx140 (by simp)
        replace hK2 := hK2.ext hx140 (by simp)
        replace hLk := hLk.ext hx140 (by simp)
        refine ⟨⟨st139.get 4 rfl, (InS.of_own hP.own)⟩, ?_⟩
        have hB9 := hB
        refine RS_e rfl rfl (ef_call (k := 17) (args := [a122, a123]) (Exchange_reply ⟨3, r, Tal.zero, R, eb, ec⟩ (hl.ext st139.ext List.not_mem_nil) hA (by omega) (InS.of_own hR2.own) (show R.length < 1000000 by omega) (hR2.sep hA rfl) (part_ok (.inr ⟨rfl, hRn⟩) rfl hrc hre oR hRh (show R.length ≤ 256 by omega)) rfl hHA) body_17 (by kernel_rfl)) ?_
        rintro _ w141 ⟨_, rfl, dZ, fZ, rfl, ⟨pA2, jA2, hA2⟩, hx143⟩
        have st142 := st139.call hx143 (st139.apartS hA rfl) nA
        replace hI := hI.ext hx143 (hI.apartS hA rfl)
        replace hP := hP.ext hx143 (hP.apartS hA rfl)
        replace hR2 := hR2.ext hx143 (hR2.apartS hA rfl)
        replace hK2 := hK2.ext hx143 (hK2.apartS hA rfl)
        replace hLk := hLk.ext hx143 (hLk.apartS hA rfl)
        replace hB := hB9.other hA hx143 hdB
        replace hA := hA2
        refine ⟨⟨st142.get 4 rfl, (InS.of_own hP.own)⟩, ?_⟩
        let a144 : Value := .pointer (some ⟨g22, 0, none⟩)
        let a145 : Value := .agg #[.int .i64 ((HA.tk : Nat) : Int), .int .i64 ((HA.rf : Nat) : Int)]
        refine RS_sg 5 [.p (.tuple #[.slice dZ 0 fZ, a145, .int .i64 0]), .p (.slice dZ 0 fZ), .p a145, .p (.int .i64 0), .p (.slice dZ 0 fZ)] [(0, a4), (1, a5), (5, a6), (7, a36), (9, a47), (11, a59), (13, .slice dE 1 fE), (14, a94), (16, a102), (18, a106), (20, a114), (21, .slice dZ 0 fZ), (22, a144), (147, a145), (148, .int .i64 0)] (⟨st142.get 4 rfl, (InS.of_own hP.own)⟩) (fun _ hS => trivial) ?_
        refine RS_e rfl rfl (ef_store st142 rfl rfl rfl size_52 0 rfl rfl rfl rfl (.inr hg22)) ?_
        rintro _ w146 ⟨rfl, st147, hx148⟩
        replace st147 : St [] w w146 [(g22, 52, [.int .i64 ((HA.tk : Nat) : Int), .int .i64 ((HA.rf : Nat) : Int)]), (g20, 52, [.int .i64 0, .int .i64 0]), (g14, 52, [.int .i64 ((HB.tk : Nat) : Int), .int .i64 ((HB.rf : Nat) : Int)]), (g9, 39, [.pointer (some ⟨gB, 0, none⟩), .pointer (some ⟨gdB, 0, none⟩)]), (g7, 39, [.pointer (some ⟨gA, 0, none⟩), .pointer (some ⟨gdA, 0, none⟩)]), (gs, 22, [.slice b L.length c, .slice d K.length f]), (g5, 24, [.string r.lo, .string r.hi, .bool r.op])] := st147
        replace hA := hA.ext1 hx148 (st142.get 0 rfl) (by decide) (by decide) (by decide) (by decide)
        replace hB := hB.ext1 hx148 (st142.get 0 rfl) (by decide) (by decide) (by decide) (by decide)
        replace hI := hI.ext hx148 (hI.not_blk (st142.get 0 rfl) (by decide))
        replace hP := hP.ext hx148 (hP.not_blk (st142.get 0 rfl) (by decide))
        replace hR2 := hR2.ext hx148 (hR2.not_blk (st142.get 0 rfl) (by decide))
        replace hK2 := hK2.ext hx148 (hK2.not_blk (st142.get 0 rfl) (by decide))
        replace hLk := hLk.ext hx148 (hLk.not_blk (st142.get 0 rfl) (by decide))
        refine ⟨⟨st147.get 4 rfl, (InS.of_own hP.own)⟩, ?_⟩
        refine RS_sg 1 [.p (.int .i64 0)] [(0, a4), (1, a5), (5, a6), (7, a36), (9, a47), (11, a59), (13, .slice dE 1 fE), (14, a94), (16, a102), (18, a106), (20, a114), (21, .slice dZ 0 fZ), (22, a144), (23, .int .i64 0)] (⟨st147.get 4 rfl, (InS.of_own hP.own)⟩) (fun _ hS => trivial) ?_
        refine RS_nil <| n_then <| W_seq <| W_seq <| W_region <| RP_sg 7 [.p (.int .i64 0), .p (.bool false), .p (.bool false), .p (.slice dZ 0 fZ), .p (.int .i64 0), .p (.bool false), .p (.bool false)] [(0, a4), (1, a5), (5, a6), (7, a36), (9, a47), (11, a59), (13, .slice dE 1 fE), (14, a94), (16, a102), (18, a106), (20, a114), (22, a144), (155, .bool false)] trivial ?_
        refine RP_nil <| n_then <| W_false rfl ?_
        refine W_skip <| n_then <| W_region <| RP_sg 1 [.l 52 a144 a145] [(0, a4), (1, a5), (5, a6), (7, a36), (9, a47), (11, a59), (13, .slice dE 1 fE), (14, a94), (16, a102), (18, a106), (20, a114), (156, a145)] ⟨ldN st147 agg_52 0 rfl rfl rfl, trivial⟩ ?_
        refine RP_e rfl (ef_store st147 rfl rfl rfl size_52 1 rfl rfl rfl rfl (.inr hg20)) ?_
        rintro _ w149 ⟨rfl, st150, hx151⟩
        replace st150 : St [] w w149 [(g22, 52, [.int .i64 ((HA.tk : Nat) : Int), .int .i64 ((HA.rf : Nat) : Int)]), (g20, 52, [.int .i64 ((HA.tk : Nat) : Int), .int .i64 ((HA.rf : Nat) : Int)]), (g14, 52, [.int .i64 ((HB.tk : Nat) : Int), .int .i64 ((HB.rf : Nat) : Int)]), (g9, 39, [.pointer (some ⟨gB, 0, none⟩), .pointer (some ⟨gdB, 0, none⟩)]), (g7, 39, [.pointer (some ⟨gA, 0, none⟩), .pointer (some ⟨gdA, 0, none⟩)]), (gs, 22, [.slice b L.length c, .slice d K.length f]), (g5, 24, [.string r.lo, .string r.hi, .bool r.op])] := st150
        replace hA := hA.ext1 hx151 (st147.get 1 rfl) (by decide) (by decide) (by decide) (by decide)
        replace hB := hB.ext1 hx151 (st147.get 1 rfl) (by decide) (by decide) (by decide) (by decide)
        replace hI := hI.ext hx151 (hI.not_blk (st147.get 1 rfl) (by decide))
        replace hP := hP.ext hx151 (hP.not_blk (st147.get 1 rfl) (by decide))
        replace hR2 := hR2.ext hx151 (hR2.not_blk (st147.get 1 rfl) (by decide))
        replace hK2 := hK2.ext hx151 (hK2.not_blk (st147.get 1 rfl) (by decide))
        replace hLk := hLk.ext hx151 (hLk.not_blk (st147.get 1 rfl) (by decide))
        refine RP_pk [(0, a4), (1, a5), (5, a6), (7, a36), (9, a47), (11, a59), (13, .slice dE 1 fE), (14, a94), (16, a102), (18, a106), (20, a114)] ?_
        refine RP_nil <| n_then <| W_seq <| W_region <| RP_sg 7 [.p (.slice dE 1 fE), .p (.int .i64 1), .p (.bool false), .p a106, .p (.int .i64 ((R.length : Nat) : Int)), .p (.bool (((R.length : Nat) : Int) == 0)), .p (.bool (!(false == (((R.length : Nat) : Int) == 0))))] [(0, a4), (1, a5), (5, a6), (7, a36), (9, a47), (11, a59), (14, a94), (16, a102), (20, a114), (163, .bool (!(false == (((R.length : Nat) : Int) == 0))))] trivial ?_
        refine RP_nil <| n_then <| W_false' rfl hn0 ?_
        refine W_skip <| n_mid ?_
        exact ⟨g14, g20, dK, fK, pA2, jA2, pB2, jB2, (by kernel_rfl), (st150.sub [] (List.sublist_cons_self _ _)), hA, hB, hI, hK2⟩
     rintro _ w153 ⟨g14, g20, dK, fK, pA, jA, pB, jB, hp154, st152, hA, hB, hI, hK2⟩
     refine W_pick [0, 1, 5, 7, 9, 11, 14, 16, 20] hp154 ?_
     refine W_seq <| W_seq <| W_region ?_
     let a155 : Value := .slice dI ((inL L r).length) fI
     let a156 : Value := .slice dK ((inL K r).length) fK
     let a157 : Value := .pointer (some ⟨g20, 0, none⟩)
     refine RP_sg 4 [.p (.pointer (some ⟨g14, 1, none⟩)), .l 3 (.pointer (some ⟨g14, 1, none⟩)) (.int .i64 ((HB.rf : Nat) : Int)), .p (.bool (decide (((HB.rf : Nat) : Int) > 0))), .p (.bool (decide (((HB.rf : Nat) : Int) > 0)))] [(0, a4), (1, a5), (5, a6), (7, a36), (9, a47), (11, a155), (16, a156), (20, a157), (167, .bool (decide (((HB.rf : Nat) : Int) > 0)))] ⟨ld1 st152 nagg_3 1 rfl rfl, trivial⟩ ?_
     rcases Bool.eq_false_or_eq_true (decide (((HB.rf : Nat) : Int) > 0)) with c167_158 | c167_158
     ·
      have c167_158p := of_decide_eq_true c167_158
      refine RP_at (m' := [(0, a4), (1, a5), (5, a6), (7, a36), (9, a47), (11, a155), (16, a156), (20, a157), (167, .bool true)]) (by rw [c167_158]) ?_
      refine RP_sg 4 [.no, .no, .no, .p (.bool true)] [(0, a4), (1, a5), (5, a6), (7, a36), (9, a47), (11, a155), (16, a156), (171, .bool true)] trivial ?_
      refine RP_nil <| n_then <| W_true rfl ?_
      refine W_seq ?_
      have h256 := hM.fb (by omega)
      refine W_region ?_
      let a159 : Value := .pointer (some ⟨gA, 0, none⟩)
      refine RP_sg 2 [.p a36, .l 36 a36 a159] [(9, a47), (173, a159)] ⟨ld1 st152 nagg_36 3 rfl rfl, trivial⟩ ?_
      refine RP_e rfl (ef_call (k := 20) (args := [a159]) (lawHeld_ok hA hM.la hM.oa) body_20 (by kernel_rfl)) ?_
      rintro _ w160 ⟨_, rfl, bh, ch, rfl, -, hx162⟩
      have st161 := st152.call0 hx162
      replace hA := hA.ext0 hx162
      replace hB := hB.ext0 hx162
      replace hI := hI.ext hx162 (by simp)
      replace hK2 := hK2.ext hx162 (by simp)
      refine RP_sg 3 [.p (.int .i64 ((HA.t.list.length : Nat) : Int)), .p (.bool (((HA.t.list.length : Nat) : Int) == 256)), .p (.bool (((HA.t.list.length : Nat) : Int) == 256))] [(9, a47), (177, .bool (((HA.t.list.length : Nat) : Int) == 256))] trivial ?_
      rcases Bool.eq_false_or_eq_true (((HA.t.list.length : Nat) : Int) == 256) with c177_163 | c177_163
      ·
       refine RP_at (m' := [(9, a47), (177, .bool true)]) (by rw [c177_163]) ?_
       refine RP_sg 2 [.no, .no] [(177, .bool true), (179, undef)] trivial ?_
       refine RP_no rfl rfl (by decide) ?_
       refine RP_sg 4 [.no, .no, .p (.bool true), .p (.bool true)] [(6, .bool true)] trivial ?_
       refine RP_nil <| n_then <| W_ret <| r_then ?_
       refine ret_of (P := Tryd.prog) (fn := Tryd.f4) (m := [(6, .bool true)]) (w := w160) (res1 rfl (rv_tmp rfl)) ?_
       exact ⟨rfl, st161.ext⟩
      ·
       refine RP_at (m' := [(9, a47), (177, .bool false)]) (by rw [c177_163]) ?_
       let a164 : Value := .pointer (some ⟨gB, 0, none⟩)
       refine RP_sg 2 [.p a47, .l 36 a47 a164] [(177, .bool false), (179, a164)] ⟨ld1 st161 nagg_36 2 rfl rfl, trivial⟩ ?_
       refine RP_ge rfl rfl (ef_call (k := 20) (args := [a164]) (lawHeld_ok hB hM.lb hM.ob) body_20 (by kernel_rfl)) ?_
       rintro _ w165 ⟨_, rfl, bh, ch, rfl, -, hx167⟩
       have st166 := st161.call0 hx167
       replace hA := hA.ext0 hx167
       replace hB := hB.ext0 hx167
       replace hI := hI.ext hx167 (by simp)
       replace hK2 := hK2.ext hx167 (by simp)
       refine RP_sg 4 [.p (.int .i64 ((HB.t.list.length : Nat) : Int)), .p (.bool (((HB.t.list.length : Nat) : Int) == 256)), .p (.bool (((HB.t.list.length : Nat) : Int) == 256)), .p (.bool (((HB.t.list.length : Nat) : Int) == 256))] [(6, .bool (((HB.t.list.length : Nat) : Int) == 256))] trivial ?_
       refine RP_nil <| n_then <| W_ret <| r_then ?_
       refine ret_of (P := Tryd.prog) (fn := Tryd.f4) (m := [(6, .bool (((HB.t.list.length : Nat) : Int) == 256))]) (w := w165) (res1 rfl (rv_tmp rfl)) ?_
       exact ⟨by rw [h256]; rfl, st166.ext⟩
     ·
      have c167_158p := of_decide_eq_false c167_158
      refine RP_at (m' := [(0, a4), (1, a5), (5, a6), (7, a36), (9, a47), (11, a155), (16, a156), (20, a157), (167, .bool false)]) (by rw [c167_158]) ?_
      refine RP_sg 4 [.p (.pointer (some ⟨g20, 1, none⟩)), .l 3 (.pointer (some ⟨g20, 1, none⟩)) (.int .i64 ((HA.rf : Nat) : Int)), .p (.bool (decide (((HA.rf : Nat) : Int) > 0))), .p (.bool (decide (((HA.rf : Nat) : Int) > 0)))] [(0, a4), (1, a5), (5, a6), (7, a36), (9, a47), (11, a155), (16, a156), (171, .bool (decide (((HA.rf : Nat) : Int) > 0)))] ⟨ld1 st152 nagg_3 0 rfl rfl, trivial⟩ ?_
      refine RP_nil <| n_then <| W_cond rfl (fun c171_168 => ?_) (fun c171_168 => ?_)
      ·
       have c171_168p := of_decide_eq_true c171_168
       refine W_seq ?_
       have h256 := hM.fa (by omega)
       have h256b : (((HA.t.list.length : Nat) : Int) == 256) = true := by rw [h256]; rfl
       refine W_region ?_
       let a169 : Value := .pointer (some ⟨gA, 0, none⟩)
       refine RP_sg 2 [.p a36, .l 36 a36 a169] [(9, a47), (173, a169)] ⟨ld1 st152 nagg_36 3 rfl rfl, trivial⟩ ?_
       refine RP_e rfl (ef_call (k := 20) (args := [a169]) (lawHeld_ok hA hM.la hM.oa) body_20 (by kernel_rfl)) ?_
       rintro _ w170 ⟨_, rfl, bh, ch, rfl, -, hx172⟩
       have st171 := st152.call0 hx172
       replace hA := hA.ext0 hx172
       replace hB := hB.ext0 hx172
       replace hI := hI.ext hx172 (by simp)
       replace hK2 := hK2.ext hx172 (by simp)
       refine RP_sg 3 [.p (.int .i64 ((HA.t.list.length : Nat) : Int)), .p (.bool (((HA.t.list.length : Nat) : Int) == 256)), .p (.bool (((HA.t.list.length : Nat) : Int) == 256))] [(9, a47), (177, .bool (((HA.t.list.length : Nat) : Int) == 256))] trivial ?_
       refine RP_at (m' := [(9, a47), (177, .bool true)]) (by rw [h256b]) ?_
       refine RP_sg 2 [.no, .no] [(177, .bool true), (179, undef)] trivial ?_
       refine RP_no rfl rfl (by decide) ?_
       refine RP_sg 4 [.no, .no, .p (.bool true), .p (.bool true)] [(6, .bool true)] trivial ?_
       refine RP_nil <| n_then <| W_ret <| r_then ?_
       refine ret_of (P := Tryd.prog) (fn := Tryd.f4) (m := [(6, .bool true)]) (w := w170) (res1 rfl (rv_tmp rfl)) ?_
       exact ⟨rfl, st171.ext⟩
      ·
       have c171_168p := of_decide_eq_false c171_168
       refine W_skip <| n_then <| W_seq ?_
       obtain ⟨mA, mB, dA, dB⟩ := hM.ok (by omega) (by omega)
       have ulA := hM.la
       have ulB := hM.lb
       have uiA := inL_le HA.t.list r
       have uiB := inL_le HB.t.list r
       have qA := eqMet mA
       have qB := eqMet mB
       refine W_region <| RP_sg 2 [.p a155, .p a156] [(0, a4), (1, a5), (5, a6), (7, a36), (9, a47), (11, a155), (16, a156), (185, a155), (186, a156)] trivial ?_
       refine RP_e rfl (ef_call (k := 21) (args := [a155, a156]) (refMax_ok (InS.of_own hI.own) (InS.of_own hK2.own) (by omega) (by omega) oil oik) body_21 (by kernel_rfl)) ?_
       rintro _ w173 ⟨_, rfl, dM, fM, rfl, hX, hx175⟩
       have st174 := st152.call0 hx175
       replace hA := hA.ext0 hx175
       replace hB := hB.ext0 hx175
       replace hI := hI.ext hx175 (by simp)
       replace hK2 := hK2.ext hx175 (by simp)
       replace hX := hX.since st152.ext.size
       let a176 : Value := .slice dM ((maxF (pairsL (inL L r) (inL K r))).length) fM
       refine RP_sg 5 [.p (.tuple #[a176, .int .i64 0]), .p a176, .p (.int .i64 0), .p a176, .p (.int .i64 0)] [(0, a4), (1, a5), (5, a6), (7, a36), (9, a47), (11, a155), (16, a156), (24, a176)] trivial ?_
       refine RP_nil <| n_then <| W_seq <| W_regionS ⟨(fun w' => Blk w' g7 39 [.pointer (some ⟨gA, 0, none⟩), .pointer (some ⟨gdA, 0, none⟩)].toArray ∧ Blk w' g5 24 [.string r.lo, .string r.hi, .bool r.op].toArray), (fun _ => True)⟩ (.cons 1 0 (.cons 1 1 (.cons 1 3 (.cons 2 2 (.cons 2 4 (.cons 1 5 (.cons 1 6 (.cons 1 7 (.cons 1 8 (.cons 0 9 .nil)))))))))) 10 (by kernel_rfl) (by kernel_rfl) ?_
       have st177 := st174.drew
       replace hA := hA.ext0 (Ext.refl [] _).drew
       replace hB := hB.ext0 (Ext.refl [] _).drew
       replace hI := hI.drew
       replace hK2 := hK2.drew
       replace hX := hX.drew
       let a178 : Value := .pointer (some ⟨gA, 0, none⟩)
       let a179 : Value := .agg #[.string r.lo, .string r.hi, .bool r.op]
       refine RS_sg 3 [.p a36, .l 36 a36 a178, .l 24 a6 a179] [(0, a4), (1, a5), (5, a6), (7, a36), (9, a47), (11, a155), (16, a156), (24, a176), (192, a178), (194, a179)] (⟨st177.get 3 rfl, st177.get 5 rfl⟩) (fun _ hS => ⟨ld1b (hS.1) nagg_36 rfl, ldNb (hS.2) agg_24 rfl rfl, trivial⟩) ?_
       refine RS_e rfl rfl (ef_call (k := 20) (args := [a178]) (lawHeld_ok hA hM.la hM.oa) body_20 (by kernel_rfl)) ?_
       rintro _ w180 ⟨_, rfl, bh, ch, rfl, hh, hx182⟩
       have st181 := st177.call0 hx182
       replace hA := hA.ext0 hx182
       replace hB := hB.ext0 hx182
       replace hI := hI.ext hx182 (by simp)
       replace hK2 := hK2.ext hx182 (by simp)
       replace hX := hX.ext hx182 (by simp)
       refine ⟨⟨st181.get 3 rfl, st181.get 5 rfl⟩, ?_⟩
       refine RS_e rfl rfl (ef_call (k := 22) (args := [.slice bh HA.t.list.length ch, a179]) (mergeIn_ok (InS.of_own hh.own) (by omega) hM.oa hrc) body_22 (by kernel_rfl)) ?_
       rintro _ w183 ⟨_, rfl, dF, fF, rfl, hF, hx185⟩
       have st184 := st181.call0 hx185
       replace hA := hA.ext0 hx185
       replace hB := hB.ext0 hx185
       replace hI := hI.ext hx185 (by simp)
       replace hK2 := hK2.ext hx185 (by simp)
       replace hX := hX.ext hx185 (by simp)
       replace hF := hF.since st181.ext.size
       clear hh
       refine ⟨⟨st184.get 3 rfl, st184.get 5 rfl⟩, ?_⟩
       let a186 : Value := .slice dF ((inL HA.t.list r).length) fF
       refine RS_sg 4 [.p (.tuple #[a186, .int .i64 0]), .p a186, .p (.int .i64 0), .p a186] [(0, a4), (1, a5), (5, a6), (7, a36), (9, a47), (11, a155), (16, a156), (24, a176), (26, a186), (197, .int .i64 0)] (⟨st184.get 3 rfl, st184.get 5 rfl⟩) (fun _ hS => trivial) ?_
       refine RS_sgP 1 [.p (.int .i64 0)] [(0, a4), (1, a5), (5, a6), (7, a36), (9, a47), (11, a155), (16, a156), (24, a176), (26, a186), (27, .int .i64 0)] (fun _ => trivial) ?_
       refine RS_nil <| n_then <| W_seq <| W_regionS ⟨(fun w' => Blk w' g9 39 [.pointer (some ⟨gB, 0, none⟩), .pointer (some ⟨gdB, 0, none⟩)].toArray ∧ Blk w' g5 24 [.string r.lo, .string r.hi, .bool r.op].toArray), (fun _ => True)⟩ (.cons 1 0 (.cons 1 1 (.cons 1 3 (.cons 2 2 (.cons 2 4 (.cons 1 5 (.cons 1 6 (.cons 1 7 (.cons 1 8 (.cons 0 9 .nil)))))))))) 10 (by kernel_rfl) (by kernel_rfl) ?_
       have st187 := st184.drew
       replace hA := hA.ext0 (Ext.refl [] _).drew
       replace hB := hB.ext0 (Ext.refl [] _).drew
       replace hI := hI.drew
       replace hK2 := hK2.drew
       replace hX := hX.drew
       replace hF := hF.drew
       let a188 : Value := .pointer (some ⟨gB, 0, none⟩)
       refine RS_sg 3 [.p a47, .l 36 a47 a188, .l 24 a6 a179] [(0, a4), (1, a5), (7, a36), (9, a47), (11, a155), (16, a156), (24, a176), (26, a186), (27, .int .i64 0), (200, a188), (202, a179)] (⟨st187.get 2 rfl, st187.get 5 rfl⟩) (fun _ hS => ⟨ld1b (hS.1) nagg_36 rfl, ldNb (hS.2) agg_24 rfl rfl, trivial⟩) ?_
       refine RS_e rfl rfl (ef_call (k := 20) (args := [a188]) (lawHeld_ok hB hM.lb hM.ob) body_20 (by kernel_rfl)) ?_
       rintro _ w189 ⟨_, rfl, bh, ch, rfl, hh, hx191⟩
       have st190 := st187.call0 hx191
       replace hA := hA.ext0 hx191
       replace hB := hB.ext0 hx191
       replace hI := hI.ext hx191 (by simp)
       replace hK2 := hK2.ext hx191 (by simp)
       replace hX := hX.ext hx191 (by simp)
       replace hF := hF.ext hx191 (by simp)
       refine ⟨⟨st190.get 2 rfl, st190.get 5 rfl⟩, ?_⟩
       refine RS_e rfl rfl (ef_call (k := 22) (args := [.slice bh HB.t.list.length ch, a179]) (mergeIn_ok (InS.of_own hh.own) (by omega) hM.ob hrc) body_22 (by kernel_rfl)) ?_
       rintro _ w192 ⟨_, rfl, dG, fG, rfl, hG, hx194⟩
       have st193 := st190.call0 hx194
       replace hA := hA.ext0 hx194
       replace hB := hB.ext0 hx194
       replace hI := hI.ext hx194 (by simp)
       replace hK2 := hK2.ext hx194 (by simp)
       replace hX := hX.ext hx194 (by simp)
       replace hF := hF.ext hx194 (by simp)
       replace hG := hG.since st190.ext.size
       clear hh
       refine ⟨⟨st193.get 2 rfl, st193.get 5 rfl⟩, ?_⟩
       let a195 : Value := .slice dG ((inL HB.t.list r).length) fG
       refine RS_sg 4 [.p (.tuple #[a195, .int .i64 0]), .p a195, .p (.int .i64 0), .p a195] [(0, a4), (1, a5), (7, a36), (9, a47), (11, a155), (16, a156), (24, a176), (26, a186), (27, .int .i64 0), (28, a195), (205, .int .i64 0)] (⟨st193.get 2 rfl, st193.get 5 rfl⟩) (fun _ hS => trivial) ?_
       refine RS_sgP 1 [.p (.int .i64 0)] [(0, a4), (1, a5), (7, a36), (9, a47), (11, a155), (16, a156), (24, a176), (26, a186), (27, .int .i64 0), (28, a195), (29, .int .i64 0)] (fun _ => trivial) ?_
       refine RS_nil <| n_then <| W_seq <| W_seq ?_
       have u1 : ((((inL HA.t.list r).length : Nat) : Int) != (((maxF (pairsL (inL L r) (inL K r))).length : Nat) : Int)) = false := by rw [qA]; simp
       have u2 : ((((inL HB.t.list r).length : Nat) : Int) != (((maxF (pairsL (inL L r) (inL K r))).length : Nat) : Int)) = false := by rw [qB]; simp
       refine W_region <| RP_sg 14 [.p (.int .i64 0), .p (.bool false), .p (.bool false), .p (.int .i64 0), .p (.bool false), .p (.bool false), .p (.bool false), .p a186, .p (.int .i64 (((inL HA.t.list r).length : Nat) : Int)), .p a176, .p (.int .i64 (((maxF (pairsL (inL L r) (inL K r))).length : Nat) : Int)), .p (.bool ((((inL HA.t.list r).length : Nat) : Int) != (((maxF (pairsL (inL L r) (inL K r))).length : Nat) : Int))), .p (.bool ((((inL HA.t.list r).length : Nat) : Int) != (((maxF (pairsL (inL L r) (inL K r))).length : Nat) : Int))), .p (.bool ((((inL HA.t.list r).length : Nat) : Int) != (((maxF (pairsL (inL L r) (inL K r))).length : Nat) : Int)))] [(0, a4), (1, a5), (7, a36), (9, a47), (11, a155), (16, a156), (24, a176), (26, a186), (28, a195), (219, .bool ((((inL HA.t.list r).length : Nat) : Int) != (((maxF (pairsL (inL L r) (inL K r))).length : Nat) : Int)))] trivial ?_
       refine RP_at (m' := [(0, a4), (1, a5), (7, a36), (9, a47), (11, a155), (16, a156), (24, a176), (26, a186), (28, a195), (219, .bool false)]) (by rw [u1]) ?_
       refine RP_sg 6 [.p a195, .p (.int .i64 (((inL HB.t.list r).length : Nat) : Int)), .p a176, .p (.int .i64 (((maxF (pairsL (inL L r) (inL K r))).length : Nat) : Int)), .p (.bool ((((inL HB.t.list r).length : Nat) : Int) != (((maxF (pairsL (inL L r) (inL K r))).length : Nat) : Int))), .p (.bool ((((inL HB.t.list r).length : Nat) : Int) != (((maxF (pairsL (inL L r) (inL K r))).length : Nat) : Int)))] [(0, a4), (1, a5), (7, a36), (9, a47), (11, a155), (16, a156), (24, a176), (26, a186), (28, a195), (225, .bool ((((inL HB.t.list r).length : Nat) : Int) != (((maxF (pairsL (inL L r) (inL K r))).length : Nat) : Int)))] trivial ?_
       refine RP_nil <| n_then <| W_false' rfl u2 ?_
       refine W_skip <| n_then <| W_seq <| W_seq <| W_region <| RP_sg 1 [.p (.int .i64 0)] [(0, a4), (1, a5), (7, a36), (9, a47), (11, a155), (16, a156), (24, a176), (26, a186), (28, a195), (30, .int .i64 0)] trivial ?_
       refine RP_nil <| n_then <| W_block <| W_loop (fun k_ m_ w_ => ∃ (i : Nat), (maxF (pairsL (inL L r) (inL K r))).length - i = k_ ∧ m_ = [(0, a4), (1, a5), (7, a36), (9, a47), (11, a155), (16, a156), (24, a176), (26, a186), (28, a195), (30, .int .i64 ((i : Nat) : Int))] ∧ St [] w w_ [(g20, 52, [.int .i64 ((HA.tk : Nat) : Int), .int .i64 ((HA.rf : Nat) : Int)]), (g14, 52, [.int .i64 ((HB.tk : Nat) : Int), .int .i64 ((HB.rf : Nat) : Int)]), (g9, 39, [.pointer (some ⟨gB, 0, none⟩), .pointer (some ⟨gdB, 0, none⟩)]), (g7, 39, [.pointer (some ⟨gA, 0, none⟩), .pointer (some ⟨gdA, 0, none⟩)]), (gs, 22, [.slice b L.length c, .slice d K.length f]), (g5, 24, [.string r.lo, .string r.hi, .bool r.op])] ∧ i ≤ (maxF (pairsL (inL L r) (inL K r))).length ∧ Sto w_ gA bmA btA pA 4 HA.clock jA HA.t ∧ Sto w_ gB bmB btB pB 5 HB.clock jB HB.t ∧ Acc w [] w_ 61 5 (.slice dM (maxF (pairsL (inL L r) (inL K r))).length fM) (maxF (pairsL (inL L r) (inL K r))).length (entCells (maxF (pairsL (inL L r) (inL K r)))) ∧ Acc w [] w_ 61 5 (.slice dF (inL HA.t.list r).length fF) (inL HA.t.list r).length (entCells (inL HA.t.list r)) ∧ Acc w [] w_ 61 5 (.slice dG (inL HB.t.list r).length fG) (inL HB.t.list r).length (entCells (inL HB.t.list r))) ⟨0, rfl, rfl, st193, Nat.zero_le _, hA, hB, hX, hF, hG⟩ ?_
       rintro _ _ w197 ⟨i, rfl, rfl, st196, hil, hA, hB, hX, hF, hG⟩
       refine W_seq <| W_seq <| W_region <| RP_sg 4 [.p (.int .i64 ((i : Nat) : Int)), .p a176, .p (.int .i64 (((maxF (pairsL (inL L r) (inL K r))).length : Nat) : Int)), .p (.bool (decide (((i : Nat) : Int) < (((maxF (pairsL (inL L r) (inL K r))).length : Nat) : Int))))] [(0, a4), (1, a5), (7, a36), (9, a47), (11, a155), (16, a156), (24, a176), (26, a186), (28, a195), (30, .int .i64 ((i : Nat) : Int)), (229, .bool (decide (((i : Nat) : Int) < (((maxF (pairsL (inL L r) (inL K r))).length : Nat) : Int))))] trivial ?_
       refine RP_nil <| n_then <| W_cond rfl (fun c229_198 => ?_) (fun c229_198 => ?_)
       ·
        have c229_198p := of_decide_eq_true c229_198
        refine W_skip <| n_then <| W_seq <| W_block <| W_seq ?_
        have hlt : i < (maxF (pairsL (inL L r) (inL K r))).length := by omega
        obtain ⟨e, x, he, hx, hk1, hc1, hn1⟩ := met_at mA hlt
        obtain ⟨e2, x2, he2, hx2, hk2, hc2, hn2⟩ := met_at mB hlt
        obtain rfl : x = x2 := by rw [hx] at hx2; injection hx2
        have v1 : (!(e.c == x.c && e.n == x.n)) = false := by rw [hc1, hn1]; simp
        have v2 : (!(e2.c == x.c && e2.n == x.n)) = false := by rw [hc2, hn2]; simp
        have kv1 : (!((e.key).toList == (x.key).toList)) = false := by show (!(e.k == x.k)) = false; rw [hk1]; simp
        have kv2 : (!((e2.key).toList == (x.key).toList)) = false := by show (!(e2.k == x.k)) = false; rw [hk2]; simp
        refine W_regionS ⟨(fun w' => InS w' dF (entCells (inL HA.t.list r)) ∧ InS w' dG (entCells (inL HB.t.list r)) ∧ InS w' dM (entCells (maxF (pairsL (inL L r) (inL K r))))), (fun _ => True)⟩ (.cons 1 0 (.cons 1 1 (.cons 1 2 (.cons 1 3 (.cons 1 4 (.cons 1 5 (.cons 1 6 (.cons 1 7 (.cons 1 8 (.cons 1 9 (.cons 1 10 (.cons 1 11 (.cons 1 12 (.cons 1 13 (.cons 1 14 (.cons 1 15 (.cons 1 16 (.cons 1 17 (.cons 1 18 (.cons 1 19 (.cons 1 20 (.cons 1 21 (.cons 1 22 (.cons 1 23 (.cons 1 24 (.cons 1 25 (.cons 1 26 (.cons 1 27 (.cons 1 28 (.cons 1 29 (.cons 1 30 (.cons 1 31 (.cons 1 32 (.cons 1 33 (.cons 1 34 (.cons 1 35 (.cons 1 36 (.cons 1 37 (.cons 1 38 (.cons 1 39 (.cons 1 40 (.cons 1 41 (.cons 1 42 (.cons 1 43 (.cons 1 44 (.cons 1 45 (.cons 1 46 (.cons 1 47 (.cons 1 48 (.cons 1 49 .nil)))))))))))))))))))))))))))))))))))))))))))))))))) 50 (by kernel_rfl) (by kernel_rfl) ?_
        have st199 := st196.drew
        replace hA := hA.ext0 (Ext.refl [] _).drew
        replace hB := hB.ext0 (Ext.refl [] _).drew
        replace hX := hX.drew
        replace hF := hF.drew
        replace hG := hG.drew
        refine RS_sg 2 [.p a186, .p (.int .i64 ((i : Nat) : Int))] [(0, a4), (1, a5), (7, a36), (9, a47), (11, a155), (16, a156), (24, a176), (26, a186), (28, a195), (30, .int .i64 ((i : Nat) : Int)), (232, a186), (233, .int .i64 ((i : Nat) : Int))] (⟨(InS.of_own hF.own).ext0 (Ext.refl [] _), (InS.of_own hG.own).ext0 (Ext.refl [] _), (InS.of_own hX.own).ext0 (Ext.refl [] _)⟩) (fun _ hS => trivial) ?_
        refine RS_q rfl rfl (⟨(InS.of_own hF.own).ext0 (Ext.refl [] _), (InS.of_own hG.own).ext0 (Ext.refl [] _), (InS.of_own hX.own).ext0 (Ext.refl [] _)⟩) (v := .pointer (some ⟨(sp dF), so dF + i * 5, none⟩)) (fun _ _ => ev_indexI idxEnt rfl rfl ((InS.of_own hF.own).some_ (by rw [entCells_len]; omega)) (by omega)) ?_
        let a200 : Value := .agg #[.int .i64 e.c, .int .i64 e.n]
        refine RS_sg 4 [.p (.pointer (some ⟨(sp dF), so dF + i * 5 + 1, none⟩)), .l 59 (.pointer (some ⟨(sp dF), so dF + i * 5 + 1, none⟩)) a200, .p a176, .p (.int .i64 ((i : Nat) : Int))] [(0, a4), (1, a5), (7, a36), (9, a47), (11, a155), (16, a156), (24, a176), (26, a186), (28, a195), (30, .int .i64 ((i : Nat) : Int)), (236, a200), (237, a176), (238, .int .i64 ((i : Nat) : Int))] (⟨(InS.of_own hF.own).ext0 (Ext.refl [] _), (InS.of_own hG.own).ext0 (Ext.refl [] _), (InS.of_own hX.own).ext0 (Ext.refl [] _)⟩) (fun _ hS => ⟨(InS.loadV agg_59 (hS.1) he), trivial⟩) ?_
        refine RS_q rfl rfl (⟨(InS.of_own hF.own).ext0 (Ext.refl [] _), (InS.of_own hG.own).ext0 (Ext.refl [] _), (InS.of_own hX.own).ext0 (Ext.refl [] _)⟩) (v := .pointer (some ⟨(sp dM), so dM + i * 5, none⟩)) (fun _ _ => ev_indexI idxEnt rfl rfl ((InS.of_own hX.own).some_ (by rw [entCells_len]; omega)) (by omega)) ?_
        let a201 : Value := .agg #[.int .i64 x.c, .int .i64 x.n]
        refine RS_sg 2 [.p (.pointer (some ⟨(sp dM), so dM + i * 5 + 1, none⟩)), .l 59 (.pointer (some ⟨(sp dM), so dM + i * 5 + 1, none⟩)) a201] [(0, a4), (1, a5), (7, a36), (9, a47), (11, a155), (16, a156), (24, a176), (26, a186), (28, a195), (30, .int .i64 ((i : Nat) : Int)), (236, a200), (241, a201)] (⟨(InS.of_own hF.own).ext0 (Ext.refl [] _), (InS.of_own hG.own).ext0 (Ext.refl [] _), (InS.of_own hX.own).ext0 (Ext.refl [] _)⟩) (fun _ hS => ⟨(InS.loadV agg_59 (hS.2.2) hx), trivial⟩) ?_
        refine RS_q rfl rfl (⟨(InS.of_own hF.own).ext0 (Ext.refl [] _), (InS.of_own hG.own).ext0 (Ext.refl [] _), (InS.of_own hX.own).ext0 (Ext.refl [] _)⟩) (v := .bool (!(e.c == x.c && e.n == x.n))) (fun _ _ => ev_neq (eqVer e.c e.n x.c x.n) (by decide) (by kernel_rfl) rfl rfl) ?_
        refine RS_sg 1 [.p (.bool (!(e.c == x.c && e.n == x.n)))] [(0, a4), (1, a5), (7, a36), (9, a47), (11, a155), (16, a156), (24, a176), (26, a186), (28, a195), (30, .int .i64 ((i : Nat) : Int)), (243, .bool (!(e.c == x.c && e.n == x.n)))] (⟨(InS.of_own hF.own).ext0 (Ext.refl [] _), (InS.of_own hG.own).ext0 (Ext.refl [] _), (InS.of_own hX.own).ext0 (Ext.refl [] _)⟩) (fun _ hS => trivial) ?_
        refine RS_at (m' := [(0, a4), (1, a5), (7, a36), (9, a47), (11, a155), (16, a156), (24, a176), (26, a186), (28, a195), (30, .int .i64 ((i : Nat) : Int)), (243, .bool false)]) (by rw [v1]) ?_
        refine RS_sg 2 [.p a195, .p (.int .i64 ((i : Nat) : Int))] [(0, a4), (1, a5), (7, a36), (9, a47), (11, a155), (16, a156), (24, a176), (26, a186), (28, a195), (30, .int .i64 ((i : Nat) : Int)), (243, .bool false), (244, a195), (245, .int .i64 ((i : Nat) : Int))] (⟨(InS.of_own hF.own).ext0 (Ext.refl [] _), (InS.of_own hG.own).ext0 (Ext.refl [] _), (InS.of_own hX.own).ext0 (Ext.refl [] _)⟩) (fun _ hS => trivial) ?_
        refine RS_gq rfl rfl rfl (⟨(InS.of_own hF.own).ext0 (Ext.refl [] _), (InS.of_own hG.own).ext0 (Ext.refl [] _), (InS.of_own hX.own).ext0 (Ext.refl [] _)⟩) (v := .pointer (some ⟨(sp dG), so dG + i * 5, none⟩)) (fun _ _ => ev_indexI idxEnt rfl rfl ((InS.of_own hG.own).some_ (by rw [entCells_len]; omega)) (by omega)) ?_
        let a202 : Value := .agg #[.int .i64 e2.c, .int .i64 e2.n]
        refine RS_sg 4 [.p (.pointer (some ⟨(sp dG), so dG + i * 5 + 1, none⟩)), .l 59 (.pointer (some ⟨(sp dG), so dG + i * 5 + 1, none⟩)) a202, .p a176, .p (.int .i64 ((i : Nat) : Int))] [(0, a4), (1, a5), (7, a36), (9, a47), (11, a155), (16, a156), (24, a176), (26, a186), (28, a195), (30, .int .i64 ((i : Nat) : Int)), (243, .bool false), (248, a202), (249, a176), (250, .int .i64 ((i : Nat) : Int))] (⟨(InS.of_own hF.own).ext0 (Ext.refl [] _), (InS.of_own hG.own).ext0 (Ext.refl [] _), (InS.of_own hX.own).ext0 (Ext.refl [] _)⟩) (fun _ hS => ⟨(InS.loadV agg_59 (hS.2.1) he2), trivial⟩) ?_
        refine RS_gq rfl rfl rfl (⟨(InS.of_own hF.own).ext0 (Ext.refl [] _), (InS.of_own hG.own).ext0 (Ext.refl [] _), (InS.of_own hX.own).ext0 (Ext.refl [] _)⟩) (v := .pointer (some ⟨(sp dM), so dM + i * 5, none⟩)) (fun _ _ => ev_indexI idxEnt rfl rfl ((InS.of_own hX.own).some_ (by rw [entCells_len]; omega)) (by omega)) ?_
        refine RS_sg 2 [.p (.pointer (some ⟨(sp dM), so dM + i * 5 + 1, none⟩)), .l 59 (.pointer (some ⟨(sp dM), so dM + i * 5 + 1, none⟩)) a201] [(0, a4), (1, a5), (7, a36), (9, a47), (11, a155), (16, a156), (24, a176), (26, a186), (28, a195), (30, .int .i64 ((i : Nat) : Int)), (243, .bool false), (248, a202), (253, a201)] (⟨(InS.of_own hF.own).ext0 (Ext.refl [] _), (InS.of_own hG.own).ext0 (Ext.refl [] _), (InS.of_own hX.own).ext0 (Ext.refl [] _)⟩) (fun _ hS => ⟨(InS.loadV agg_59 (hS.2.2) hx), trivial⟩) ?_
        refine RS_gq rfl rfl rfl (⟨(InS.of_own hF.own).ext0 (Ext.refl [] _), (InS.of_own hG.own).ext0 (Ext.refl [] _), (InS.of_own hX.own).ext0 (Ext.refl [] _)⟩) (v := .bool (!(e2.c == x.c && e2.n == x.n))) (fun _ _ => ev_neq (eqVer e2.c e2.n x.c x.n) (by decide) (by kernel_rfl) rfl rfl) ?_
        refine RS_sg 2 [.p (.bool (!(e2.c == x.c && e2.n == x.n))), .p (.bool (!(e2.c == x.c && e2.n == x.n)))] [(0, a4), (1, a5), (7, a36), (9, a47), (11, a155), (16, a156), (24, a176), (26, a186), (28, a195), (30, .int .i64 ((i : Nat) : Int)), (256, .bool (!(e2.c == x.c && e2.n == x.n)))] (⟨(InS.of_own hF.own).ext0 (Ext.refl [] _), (InS.of_own hG.own).ext0 (Ext.refl [] _), (InS.of_own hX.own).ext0 (Ext.refl [] _)⟩) (fun _ hS => trivial) ?_
        refine RS_at (m' := [(0, a4), (1, a5), (7, a36), (9, a47), (11, a155), (16, a156), (24, a176), (26, a186), (28, a195), (30, .int .i64 ((i : Nat) : Int)), (256, .bool false)]) (by rw [v2]) ?_
        refine RS_sg 2 [.p a186, .p (.int .i64 ((i : Nat) : Int))] [(0, a4), (1, a5), (7, a36), (9, a47), (11, a155), (16, a156), (24, a176), (26, a186), (28, a195), (30, .int .i64 ((i : Nat) : Int)), (256, .bool false), (257, a186), (258, .int .i64 ((i : Nat) : Int))] (⟨(InS.of_own hF.own).ext0 (Ext.refl [] _), (InS.of_own hG.own).ext0 (Ext.refl [] _), (InS.of_own hX.own).ext0 (Ext.refl [] _)⟩) (fun _ hS => trivial) ?_
        refine RS_gq rfl rfl rfl (⟨(InS.of_own hF.own).ext0 (Ext.refl [] _), (InS.of_own hG.own).ext0 (Ext.refl [] _), (InS.of_own hX.own).ext0 (Ext.refl [] _)⟩) (v := .pointer (some ⟨(sp dF), so dF + i * 5, none⟩)) (fun _ _ => ev_indexI idxEnt rfl rfl ((InS.of_own hF.own).some_ (by rw [entCells_len]; omega)) (by omega)) ?_
        refine RS_sg 4 [.p (.pointer (some ⟨(sp dF), so dF + i * 5, none⟩)), .l 9 (.pointer (some ⟨(sp dF), so dF + i * 5, none⟩)) (.string e.key), .p a176, .p (.int .i64 ((i : Nat) : Int))] [(0, a4), (1, a5), (7, a36), (9, a47), (11, a155), (16, a156), (24, a176), (26, a186), (28, a195), (30, .int .i64 ((i : Nat) : Int)), (256, .bool false), (261, .string e.key), (262, a176), (263, .int .i64 ((i : Nat) : Int))] (⟨(InS.of_own hF.own).ext0 (Ext.refl [] _), (InS.of_own hG.own).ext0 (Ext.refl [] _), (InS.of_own hX.own).ext0 (Ext.refl [] _)⟩) (fun _ hS => ⟨(InS.load1 nagg_9 (hS.1) (entCells_0 he rfl)), trivial⟩) ?_
        refine RS_gq rfl rfl rfl (⟨(InS.of_own hF.own).ext0 (Ext.refl [] _), (InS.of_own hG.own).ext0 (Ext.refl [] _), (InS.of_own hX.own).ext0 (Ext.refl [] _)⟩) (v := .pointer (some ⟨(sp dM), so dM + i * 5, none⟩)) (fun _ _ => ev_indexI idxEnt rfl rfl ((InS.of_own hX.own).some_ (by rw [entCells_len]; omega)) (by omega)) ?_
        refine RS_sg 5 [.p (.pointer (some ⟨(sp dM), so dM + i * 5, none⟩)), .l 9 (.pointer (some ⟨(sp dM), so dM + i * 5, none⟩)) (.string x.key), .p (.bool (!((e.key).toList == (x.key).toList))), .p (.bool (!((e.key).toList == (x.key).toList))), .p (.bool (!((e.key).toList == (x.key).toList)))] [(0, a4), (1, a5), (7, a36), (9, a47), (11, a155), (16, a156), (24, a176), (26, a186), (28, a195), (30, .int .i64 ((i : Nat) : Int)), (269, .bool (!((e.key).toList == (x.key).toList)))] (⟨(InS.of_own hF.own).ext0 (Ext.refl [] _), (InS.of_own hG.own).ext0 (Ext.refl [] _), (InS.of_own hX.own).ext0 (Ext.refl [] _)⟩) (fun _ hS => ⟨(InS.load1 nagg_9 (hS.2.2) (entCells_0 hx rfl)), trivial⟩) ?_
        refine RS_at (m' := [(0, a4), (1, a5), (7, a36), (9, a47), (11, a155), (16, a156), (24, a176), (26, a186), (28, a195), (30, .int .i64 ((i : Nat) : Int)), (269, .bool false)]) (by rw [kv1]) ?_
        refine RS_sg 2 [.p a195, .p (.int .i64 ((i : Nat) : Int))] [(0, a4), (1, a5), (7, a36), (9, a47), (11, a155), (16, a156), (24, a176), (26, a186), (28, a195), (30, .int .i64 ((i : Nat) : Int)), (269, .bool false), (270, a195), (271, .int .i64 ((i : Nat) : Int))] (⟨(InS.of_own hF.own).ext0 (Ext.refl [] _), (InS.of_own hG.own).ext0 (Ext.refl [] _), (InS.of_own hX.own).ext0 (Ext.refl [] _)⟩) (fun _ hS => trivial) ?_
        refine RS_gq rfl rfl rfl (⟨(InS.of_own hF.own).ext0 (Ext.refl [] _), (InS.of_own hG.own).ext0 (Ext.refl [] _), (InS.of_own hX.own).ext0 (Ext.refl [] _)⟩) (v := .pointer (some ⟨(sp dG), so dG + i * 5, none⟩)) (fun _ _ => ev_indexI idxEnt rfl rfl ((InS.of_own hG.own).some_ (by rw [entCells_len]; omega)) (by omega)) ?_
        refine RS_sg 4 [.p (.pointer (some ⟨(sp dG), so dG + i * 5, none⟩)), .l 9 (.pointer (some ⟨(sp dG), so dG + i * 5, none⟩)) (.string e2.key), .p a176, .p (.int .i64 ((i : Nat) : Int))] [(0, a4), (1, a5), (7, a36), (9, a47), (11, a155), (16, a156), (24, a176), (26, a186), (28, a195), (30, .int .i64 ((i : Nat) : Int)), (269, .bool false), (274, .string e2.key), (275, a176), (276, .int .i64 ((i : Nat) : Int))] (⟨(InS.of_own hF.own).ext0 (Ext.refl [] _), (InS.of_own hG.own).ext0 (Ext.refl [] _), (InS.of_own hX.own).ext0 (Ext.refl [] _)⟩) (fun _ hS => ⟨(InS.load1 nagg_9 (hS.2.1) (entCells_0 he2 rfl)), trivial⟩) ?_
        refine RS_gq rfl rfl rfl (⟨(InS.of_own hF.own).ext0 (Ext.refl [] _), (InS.of_own hG.own).ext0 (Ext.refl [] _), (InS.of_own hX.own).ext0 (Ext.refl [] _)⟩) (v := .pointer (some ⟨(sp dM), so dM + i * 5, none⟩)) (fun _ _ => ev_indexI idxEnt rfl rfl ((InS.of_own hX.own).some_ (by rw [entCells_len]; omega)) (by omega)) ?_
        refine RS_sg 4 [.p (.pointer (some ⟨(sp dM), so dM + i * 5, none⟩)), .l 9 (.pointer (some ⟨(sp dM), so dM + i * 5, none⟩)) (.string x.key), .p (.bool (!((e2.key).toList == (x.key).toList))), .p (.bool (!((e2.key).toList == (x.key).toList)))] [(0, a4), (1, a5), (7, a36), (9, a47), (11, a155), (16, a156), (24, a176), (26, a186), (28, a195), (30, .int .i64 ((i : Nat) : Int)), (281, .bool (!((e2.key).toList == (x.key).toList)))] (⟨(InS.of_own hF.own).ext0 (Ext.refl [] _), (InS.of_own hG.own).ext0 (Ext.refl [] _), (InS.of_own hX.own).ext0 (Ext.refl [] _)⟩) (fun _ hS => ⟨(InS.load1 nagg_9 (hS.2.2) (entCells_0 hx rfl)), trivial⟩) ?_
        refine RS_nil <| n_then <| W_false' rfl kv2 ?_
        refine W_skip <| n_block <| n_then <| W_region <| RP_sg 3 [.p (.int .i64 ((i : Nat) : Int)), .p (.int .i64 (IntKind.i64.wrap (((i : Nat) : Int) + 1))), .p (.int .i64 (IntKind.i64.wrap (((i : Nat) : Int) + 1)))] [(0, a4), (1, a5), (7, a36), (9, a47), (11, a155), (16, a156), (24, a176), (26, a186), (28, a195), (30, .int .i64 (IntKind.i64.wrap (((i : Nat) : Int) + 1)))] trivial ?_
        refine RP_nil ?_
        exact ⟨_, by omega, (i + 1), rfl, by rw [inc_w (n := i) (by omega)], st199, by omega, hA, hB, hX, hF, hG⟩
       ·
        have c229_198p := of_decide_eq_false c229_198
        refine W_exit ?_
        refine e_then <| e_loop <| e_here ?_
        refine n_then <| W_seq ?_
        have z1 : ((IntKind.i64.wrap (((HA.t.list.length : Nat) : Int) - (((inL HA.t.list r).length : Nat) : Int))) == (IntKind.i64.wrap (((L.length : Nat) : Int) - (((inL L r).length : Nat) : Int)))) = true := by rw [show ((HA.t.list.length : Nat) : Int) - (((inL HA.t.list r).length : Nat) : Int) = ((L.length : Nat) : Int) - (((inL L r).length : Nat) : Int) from by omega]; simp
        have z2 : ((IntKind.i64.wrap (((HB.t.list.length : Nat) : Int) - (((inL HB.t.list r).length : Nat) : Int))) == (IntKind.i64.wrap (((K.length : Nat) : Int) - (((inL K r).length : Nat) : Int)))) = true := by rw [show ((HB.t.list.length : Nat) : Int) - (((inL HB.t.list r).length : Nat) : Int) = ((K.length : Nat) : Int) - (((inL K r).length : Nat) : Int) from by omega]; simp
        refine W_region <| RP_sg 2 [.p a36, .l 36 a36 a178] [(0, a4), (1, a5), (9, a47), (11, a155), (16, a156), (26, a186), (28, a195), (283, a178)] ⟨ld1 st196 nagg_36 3 rfl rfl, trivial⟩ ?_
        refine RP_e rfl (ef_call (k := 20) (args := [a178]) (lawHeld_ok hA hM.la hM.oa) body_20 (by kernel_rfl)) ?_
        rintro _ w203 ⟨_, rfl, bh, ch, rfl, -, hx205⟩
        have st204 := st196.call0 hx205
        replace hA := hA.ext0 hx205
        replace hB := hB.ext0 hx205
        replace hX := hX.ext hx205 (by simp)
        replace hF := hF.ext hx205 (by simp)
        replace hG := hG.ext hx205 (by simp)
        refine RP_sg 11 [.p (.int .i64 ((HA.t.list.length : Nat) : Int)), .p a186, .p (.int .i64 (((inL HA.t.list r).length : Nat) : Int)), .p (.int .i64 (IntKind.i64.wrap (((HA.t.list.length : Nat) : Int) - (((inL HA.t.list r).length : Nat) : Int)))), .p a4, .p (.int .i64 ((L.length : Nat) : Int)), .p a155, .p (.int .i64 (((inL L r).length : Nat) : Int)), .p (.int .i64 (IntKind.i64.wrap (((L.length : Nat) : Int) - (((inL L r).length : Nat) : Int)))), .p (.bool ((IntKind.i64.wrap (((HA.t.list.length : Nat) : Int) - (((inL HA.t.list r).length : Nat) : Int))) == (IntKind.i64.wrap (((L.length : Nat) : Int) - (((inL L r).length : Nat) : Int))))), .p (.bool ((IntKind.i64.wrap (((HA.t.list.length : Nat) : Int) - (((inL HA.t.list r).length : Nat) : Int))) == (IntKind.i64.wrap (((L.length : Nat) : Int) - (((inL L r).length : Nat) : Int)))))] [(1, a5), (9, a47), (16, a156), (28, a195), (295, .bool ((IntKind.i64.wrap (((HA.t.list.length : Nat) : Int) - (((inL HA.t.list r).length : Nat) : Int))) == (IntKind.i64.wrap (((L.length : Nat) : Int) - (((inL L r).length : Nat) : Int)))))] trivial ?_
        refine RP_at (m' := [(1, a5), (9, a47), (16, a156), (28, a195), (295, .bool true)]) (by rw [z1]) ?_
        refine RP_sg 2 [.p a47, .l 36 a47 a188] [(1, a5), (16, a156), (28, a195), (295, .bool true), (297, a188)] ⟨ld1 st204 nagg_36 2 rfl rfl, trivial⟩ ?_
        refine RP_ge rfl rfl (ef_call (k := 20) (args := [a188]) (lawHeld_ok hB hM.lb hM.ob) body_20 (by kernel_rfl)) ?_
        rintro _ w206 ⟨_, rfl, bh, ch, rfl, -, hx208⟩
        have st207 := st204.call0 hx208
        replace hA := hA.ext0 hx208
        replace hB := hB.ext0 hx208
        replace hX := hX.ext hx208 (by simp)
        replace hF := hF.ext hx208 (by simp)
        replace hG := hG.ext hx208 (by simp)
        refine RP_sg 12 [.p (.int .i64 ((HB.t.list.length : Nat) : Int)), .p a195, .p (.int .i64 (((inL HB.t.list r).length : Nat) : Int)), .p (.int .i64 (IntKind.i64.wrap (((HB.t.list.length : Nat) : Int) - (((inL HB.t.list r).length : Nat) : Int)))), .p a5, .p (.int .i64 ((K.length : Nat) : Int)), .p a156, .p (.int .i64 (((inL K r).length : Nat) : Int)), .p (.int .i64 (IntKind.i64.wrap (((K.length : Nat) : Int) - (((inL K r).length : Nat) : Int)))), .p (.bool ((IntKind.i64.wrap (((HB.t.list.length : Nat) : Int) - (((inL HB.t.list r).length : Nat) : Int))) == (IntKind.i64.wrap (((K.length : Nat) : Int) - (((inL K r).length : Nat) : Int))))), .p (.bool ((IntKind.i64.wrap (((HB.t.list.length : Nat) : Int) - (((inL HB.t.list r).length : Nat) : Int))) == (IntKind.i64.wrap (((K.length : Nat) : Int) - (((inL K r).length : Nat) : Int))))), .p (.bool ((IntKind.i64.wrap (((HB.t.list.length : Nat) : Int) - (((inL HB.t.list r).length : Nat) : Int))) == (IntKind.i64.wrap (((K.length : Nat) : Int) - (((inL K r).length : Nat) : Int)))))] [(6, .bool ((IntKind.i64.wrap (((HB.t.list.length : Nat) : Int) - (((inL HB.t.list r).length : Nat) : Int))) == (IntKind.i64.wrap (((K.length : Nat) : Int) - (((inL K r).length : Nat) : Int)))))] trivial ?_
        refine RP_nil <| n_then <| W_ret <| ret_of (P := Tryd.prog) (fn := Tryd.f4) (m := [(6, .bool ((IntKind.i64.wrap (((HB.t.list.length : Nat) : Int) - (((inL HB.t.list r).length : Nat) : Int))) == (IntKind.i64.wrap (((K.length : Nat) : Int) - (((inL K r).length : Nat) : Int)))))]) (w := w206) (res1 rfl (rv_tmp rfl)) ?_
        exact ⟨by rw [z2], st207.ext⟩
end Go.Proofs.YtcopemgkjbaaeaaDoor
namespace Go.Proofs.YtcopemgkjbaaeaaDoor
set_option linter.all false
open Go Go.ChangeShapes Go.WideShapes Go.ChangeAt Go.RowKit
theorem laid_metMatchMeets (os : Os) (args : Array Value) : laidMet Tryd.prog Rows.matchMeetsRow.laid ((lanesWorld os).forCall (fun _ _ => 0) ⟨#[], args, []⟩).memory :=
  laidMet_of_run (ps := [.cell 0 0, .cell 0 1, .cell 0 2, .cell 0 3, .cell 0 4, .cell 0 5]) 8 (by kernel_rfl) (by kernel_rfl) (by kernel_rfl)
set_option maxRecDepth 100000 in
theorem matchMeets_lifted (os : Os) (started : os.Started) (H : Type) (enc : TypeId × Value → H) :
    ReturnsInHanded {} Tryd.checked os 4 .any (fun w args => (Rows.matchMeetsSpec.pre enc Tryd.prog Tryd.f4 Rows.matchMeetsRow.domain false w args ∧ laidMet Tryd.prog Rows.matchMeetsRow.laid w) ∧ sizedMet enc Tryd.prog Tryd.f4 (OpenSpec.ofChange Rows.matchMeetsSpec) false w args)
      (Rows.matchMeetsSpec.post enc Tryd.prog Tryd.f4 false true false false) := by
  refine returnsInHanded_of_change_and (C := Tryd.checked) (X := fun w _ => laidMet Tryd.prog Rows.matchMeetsRow.laid w) (fun _ _ _ hh h => h.of_heap hh) own_ started (by kernel_rfl) Tryd.func4
    (ChangeSpec.witness_at (enc := enc) (C := Tryd.checked) (os := os) (X := fun w _ => laidMet Tryd.prog Rows.matchMeetsRow.laid w) false (lanesWorld os) #[.slice none 0 0, .slice none 0 0, .agg #[.string ⟨#[]⟩, .string ⟨#[]⟩, .bool false]] 8 rfl (by kernel_rfl) (by kernel_rfl) (by kernel_rfl) (by kernel_rfl) (by kernel_rfl) (laid_metMatchMeets os _)) ?_
  intro W base args ds gs before hval0 hW _ _ hL _
  have hval : ∀ (j : Nat) t v, (Tryd.f4).params[j]? = some t → args[j]? = some v → Value.okWide Tryd.prog W .any base t v := hval0
  have hW' := hW
  obtain ⟨p, q, hA0, hV, rfl, hfz, hnd⟩ := hW
  have hA : DataW.TrodAll enc Tryd.prog W 0 (fun _ => true) true (Tryd.f4).params.toList args.toList ds p := hA0
  rw [Tryd.params4] at hA hval
  have hblt := hW'.lt
  obtain ⟨v0, v1, v2, d0, d1, d2, p0, p1, p2, rfl, rfl, rfl, h0, h1, h2⟩ := trodAll_three hA
  obtain ⟨rfl, rfl⟩ := trodVars_none hV
  have hlan := lanes_of_laid hL (List.mem_singleton.2 rfl)
  obtain ⟨b0, n0, c0, rfl⟩ := okWide_slice (show (Tryd.prog).underlying 22 = some (.slice 61) by kernel_rfl) (hval 0 22 v0 rfl rfl)
  obtain ⟨b1, n1, c1, rfl⟩ := okWide_slice (show (Tryd.prog).underlying 22 = some (.slice 61) by kernel_rfl) (hval 1 22 v1 rfl rfl)
  have hb0 : ∀ y ∈ p0, y.block < W.heap.size := fun y hy => hblt y (by simp [hy])
  have hb1 : ∀ y ∈ p1, y.block < W.heap.size := fun y hy => hblt y (by simp [hy])
  have hb2 : ∀ y ∈ p2, y.block < W.heap.size := fun y hy => hblt y (by simp [hy])
  obtain ⟨b0', c0', L0, hcs0, hin0, hLm0⟩ : ∃ (b : Option Addr) (c : Nat) (L : List Ent), (Value.slice b0 n0 c0) = .slice b L.length c ∧ InS W b (entCells L) ∧ L.length ≤ maxLen := by
    obtain ⟨fuel, hf⟩ := h0
    obtain ⟨b, c, L, e1, e2, e3⟩ := open_ents hf hb0
    exact ⟨b, c, L, by simpa [Value.cells] using e1, e2, e3⟩
  have hLb0 : L0.length ≤ 9223372036854775807 := by simp only [maxLen] at hLm0; omega
  obtain ⟨b1', c1', L1, hcs1, hin1, hLm1⟩ : ∃ (b : Option Addr) (c : Nat) (L : List Ent), (Value.slice b1 n1 c1) = .slice b L.length c ∧ InS W b (entCells L) ∧ L.length ≤ maxLen := by
    obtain ⟨fuel, hf⟩ := h1
    obtain ⟨b, c, L, e1, e2, e3⟩ := open_ents hf hb1
    exact ⟨b, c, L, by simpa [Value.cells] using e1, e2, e3⟩
  have hLb1 : L1.length ≤ 9223372036854775807 := by simp only [maxLen] at hLm1; omega
  obtain ⟨r2, hr2⟩ : ∃ r : Rng, v2 = r.v := by
    obtain ⟨fuel, hf⟩ := h2
    obtain ⟨r, e⟩ := open_rng hf
    exact ⟨r, agg_of e⟩
  subst hr2
  have hc := matchMeets_cr (b := b0') (c := c0') (d := b1') (f := c1') L0 L1 r2 hlan hin0 hin1 hLb0 hLb1
  rw [← hcs0, ← hcs1] at hc
  refine Calls.mono hc ?_
  rintro e W' ⟨v, rfl, rfl, hx⟩
  have hB := hx.below
  refine ⟨_, rfl, _, _, _, [], p0 ++ (p1 ++ (p2)), [], hW', ?_, ?_, rfl, hB.frame _, fun h => by cases h⟩
  · exact trodAll_mk1 (shut_bool uBool true)
  · exact trodAll_mk3 (Below.trod laidOut_ (by kernel_rfl) (of_decide_eq_true (by kernel_rfl)) h0 hB hb0) (Below.trod laidOut_ (by kernel_rfl) (of_decide_eq_true (by kernel_rfl)) h1 hB hb1) (Below.trod laidOut_ (by kernel_rfl) (of_decide_eq_true (by kernel_rfl)) h2 hB hb2)
theorem matchMeets_said : Rows.MatchMeetsSaid :=
  OpenClaim.holds_of_wide 4 Tryd.f4 rfl rfl rfl rfl rfl rfl rfl ⟨rfl, rfl, rfl, rfl, rfl⟩ rfl rfl rfl rfl rfl (by kernel_rfl) Tryd.func4 (by kernel_rfl)
    (of_decide_eq_true (by kernel_rfl)) (by unfold Func.isWrapper; rw [if_neg (of_decide_eq_false (by kernel_rfl))]; exact ⟨rfl, rfl⟩)
    (fun os started H enc _ => matchMeets_lifted os started H enc)
theorem matchMeets_card : Rows.MatchMeetsCardSaid :=
  Claim7.holds_tied_plain_at .later [] [.data] true (true, "74140d0313133dc5918aa9f7c161e2803fa3ee313db1d9481bd9edc9c7ba2f20") true
    matchMeets_said (fun _ h => by cases h) (by kernel_rfl) (fun _ h => by cases h) matchMeets_row_tie rfl ⟨rfl, rfl⟩ (by kernel_rfl) rfl
    (fun f fn hf hfn => by
      obtain rfl : f = 4 := Option.some.inj ((show (Tryd.prog).funcNamed "tideline/tidelinelaw13.MatchMeets" = some 4 by kernel_rfl).symm.trans hf) |>.symm
      obtain rfl : fn = Tryd.f4 := (Option.some.inj ((Tryd.func4).symm.trans hfn)).symm
      refine ⟨by kernel_rfl, fun j t ht => ?_⟩
      rw [Tryd.params4] at ht
      have hm := Array.mem_of_getElem? ht
      simp only [List.mem_toArray, List.mem_cons, List.not_mem_nil, or_false] at hm
      rcases hm with rfl | rfl | rfl
      · exact (show (Tryd.prog).wantsStandIn 22 = false by kernel_rfl)
      · exact (show (Tryd.prog).wantsStandIn 22 = false by kernel_rfl)
      · exact (show (Tryd.prog).wantsStandIn 24 = false by kernel_rfl))
    (by kernel_rfl)
end Go.Proofs.YtcopemgkjbaaeaaDoor
