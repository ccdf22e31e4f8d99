/-
  Counts: what a tree's sums and folds count.
-/
import Derived.Test.YtcopemgkjbaaeaaDoorLa
namespace Go.Proofs.YtcopemgkjbaaeaaDoor
set_option linter.all false
open Go.RowKit

theorem wrap64_in {x : Int} (h0 : -9223372036854775808 ≤ x) (h : x < 9223372036854775808) : wrap64 x = x := by rw [← w64]; exact wrap_in h0 h
theorem T.sum_k : ∀ t : T, t.size ≤ 1000000 → t.sum.k = (t.size : Nat)
  | .nil, _ => rfl
  | .node e l r, h => by
    simp only [T.size] at h
    have h1 := T.sum_k l (by omega)
    have h2 := T.sum_k r (by omega)
    have hL : (T.sum.joinL l.isNil l.sum e.tal).k = ((l.size + 1 : Nat) : Int) := by
      cases l with
      | nil => rfl
      | node a b c =>
        show wrap64 ((T.node a b c).sum.k + 1) = _
        rw [h1, wrap64_in (by omega) (by omega)]; omega
    cases r with
    | nil => simpa [T.sum, T.isNil, T.sum.joinR, T.size] using hL
    | node a b c =>
      show wrap64 ((T.sum.joinL l.isNil l.sum e.tal).k + (T.node a b c).sum.k) = _
      rw [hL, h2]
      simp only [T.size] at *
      rw [wrap64_in (by omega) (by omega)]; omega
def sumK (l : List Tal) : Int := (l.map Tal.k).sum
theorem sumK_append (a b : List Tal) : sumK (a ++ b) = sumK a + sumK b := by simp [sumK]
theorem T.pieces_k : ∀ (t : T) (i j : Int), t.size ≤ 1000000 → sumK (t.pieces i j) ≤ (t.size : Nat) ∧ ∀ s ∈ t.pieces i j, 1 ≤ s.k
  | .nil, _, _, _ => ⟨by simp [T.pieces, sumK, T.size], fun s hs => by simp [T.pieces] at hs⟩
  | .node e l r, i, j, h => by
    have hsz := h
    simp only [T.size] at h
    have h1 := T.pieces_k l i (if ((l.size : Nat) : Int) < j then ((l.size : Nat) : Int) else j) (by omega)
    have h2 := T.pieces_k r (if 0 > i - ((l.size : Nat) : Int) - 1 then 0 else i - ((l.size : Nat) : Int) - 1) (j - ((l.size : Nat) : Int) - 1) (by omega)
    have h3 := T.sum_k (.node e l r) hsz
    unfold T.pieces
    cases decide (i ≥ j)
    · cases (decide (i ≤ 0) && decide (j ≥ (((T.node e l r).size : Nat) : Int)))
      · cases (decide (i ≤ ((l.size : Nat) : Int)) && decide (((l.size : Nat) : Int) < j))
        · refine ⟨?_, fun s hs => ?_⟩
          · simp only [cond_false, sumK_append, List.nil_append, T.size]; omega
          · simp only [cond_false, List.nil_append, List.mem_append] at hs
            exact hs.elim (h1.2 s) (h2.2 s)
        · refine ⟨?_, fun s hs => ?_⟩
          · simp only [cond_true, cond_false, sumK_append, T.size]
            have : sumK [e.tal] = 1 := by simp [sumK, Ent.tal]
            omega
          · simp only [cond_true, cond_false, List.mem_append, List.mem_singleton] at hs
            rcases hs with hs | rfl | hs
            · exact h1.2 s hs
            · exact Int.le_refl _
            · exact h2.2 s hs
      · refine ⟨?_, fun s hs => ?_⟩
        · simp only [cond_true, cond_false]
          simp [sumK, h3]
        · simp only [cond_true, cond_false, List.mem_singleton] at hs
          subst hs
          rw [h3]; simp only [T.size]; omega
    · exact ⟨by simp [sumK], fun s hs => by simp at hs⟩
theorem foldTal_k : ∀ (l : List Tal) (s : Tal), (∀ x ∈ l, 1 ≤ x.k) → 1 ≤ s.k → s.k + sumK l ≤ 1000000 → (l.foldl Tal.join s).k = s.k + sumK l
  | [], s, _, _, _ => by simp [sumK]
  | x :: l, s, h, hs, hb => by
    have hx := h x (by simp)
    have e : sumK (x :: l) = x.k + sumK l := by simp [sumK]
    have hp : 0 ≤ sumK l := by
      clear hb e
      induction l with
      | nil => simp [sumK]
      | cons y l ih =>
        have := h y (by simp)
        have := ih fun z hz => h z (by rcases List.mem_cons.1 hz with rfl | hz <;> simp [*])
        simp only [sumK, List.map_cons, List.sum_cons] at *; omega
    have hj : (s.join x).k = s.k + x.k := by
      show wrap64 (s.k + x.k) = _
      rw [wrap64_in (by omega) (by omega)]
    rw [List.foldl_cons, foldTal_k l (s.join x) (fun y hy => h y (by simp [hy])) (by omega) (by omega), hj, e]; omega
theorem foldR_may (t : T) (r : Rng) (hs : t.size ≤ 256) : (t.foldR r).may = true := by
  unfold T.foldR T.fold
  have h := T.pieces_k t (if 0 > ((t.rank r.lo : Nat) : Int) then 0 else ((t.rank r.lo : Nat) : Int)) (if ((t.size : Nat) : Int) < ((t.rankHi r : Nat) : Int) then ((t.size : Nat) : Int) else ((t.rankHi r : Nat) : Int)) (by omega)
  generalize t.pieces _ _ = l at *
  cases l with
  | nil => rfl
  | cons s l =>
    have hs1 := h.2 s (by simp)
    have e : sumK (s :: l) = s.k + sumK l := by simp [sumK]
    have hk := foldTal_k l s (fun x hx => h.2 x (by simp [hx])) hs1 (by omega)
    have hp : 0 ≤ sumK l := by
      have h2 := h.2
      clear hk h e
      induction l with
      | nil => simp [sumK]
      | cons y l ih =>
        have := h2 y (by simp)
        have := ih fun z hz => h2 z (by rcases List.mem_cons.1 hz with rfl | hz <;> simp [*])
        simp only [sumK, List.map_cons, List.sum_cons] at *; omega
    unfold Tal.may foldTal
    rw [hk]
    have h1 : decide (s.k + sumK l < 0) = false := decide_eq_false (by omega)
    have h2 : decide (s.k + sumK l > 256) = false := decide_eq_false (by omega)
    have h3 : (s.k + sumK l == 0) = false := by simp; omega
    rw [h1, h2, h3]; rfl
theorem loadE_all (clock : Int) : ∀ (l : List Ent) (p : Option Ent), loadE clock p l = 0 → ∀ e ∈ l, e.check = 0
  | [], _, _, e, he => by cases he
  | x :: l, p, h, e, he => by
    rw [loadE] at h
    have hx : okE clock p x = 0 := by
      rcases Bool.eq_false_or_eq_true (okE clock p x != 0) with hc | hc
      · rw [hc] at h; exact h
      · simpa using hc
    have hc : (okE clock p x != 0) = false := by rw [hx]; rfl
    rw [hc] at h
    rcases List.mem_cons.1 he with rfl | he
    · unfold okE at hx
      rcases Bool.eq_false_or_eq_true (e.check != 0) with hd | hd
      · rw [hd] at hx; exact hx
      · simpa using hd
    · exact loadE_all clock l _ h e he
theorem loadErr_ok {node clock : Int} {l : List Ent} (h : loadErr node clock l = 0) : l.length ≤ 256 ∧ ∀ e ∈ l, e.check = 0 := by
  unfold loadErr at h
  cases h1 : decide (node < 0) <;> rw [h1] at h
  · cases h2 : decide (node ≥ 8) <;> rw [h2] at h
    · cases h3 : decide (clock < 0) <;> rw [h3] at h
      · cases h4 : decide (clock > 1099511627776) <;> rw [h4] at h
        · cases h5 : decide (((l.length : Nat) : Int) > 256) <;> rw [h5] at h
          · have := of_decide_eq_false h5
            exact ⟨by omega, loadE_all clock l none h⟩
          · cases h
        · cases h
      · cases h
    · cases h
  · cases h
theorem checkPrint {r : Rng} {t : Tal} (hr : printErr r = 0) (ht : t.may = true) : checkParts [⟨1, r, t, [], none, 0⟩] = 0 ∧ r.check = 0 := by
  unfold printErr at hr
  have hc : r.check = 0 := by
    rcases Bool.eq_false_or_eq_true (r.check != 0) with h | h
    · rw [h] at hr; exact hr
    · simpa using h
  have hc' : (r.check != 0) = false := by rw [hc]; rfl
  rw [hc'] at hr
  have he : r.empty = false := by
    cases h : r.empty
    · rfl
    · rw [h] at hr; cases hr
  refine ⟨?_, hc⟩
  unfold checkParts roomE roomE partsE partsE partE Prt.fields
  simp only [he, hc', ht]
  rfl
end Go.Proofs.YtcopemgkjbaaeaaDoor
