/-
  What came in, opened: entries, slices of entries, ranges; the laid lanes.
-/
import Derived.Test.YtcopemgkjbaaeaaDoorSa
import Derived.Deep.Slices
import Derived.Deep.Strs
import Derived.Lib.SmallJoins
import Derived.Lib.LaidU8
import Derived.LaidHandle
import Derived.Carry
namespace Go.Proofs.YtcopemgkjbaaeaaDoor
set_option linter.all false
open Go.RowKit Go.ChangeShapes Go.WideShapes Go.Deep

theorem uStr : (Tryd.prog).underlying 9 = some .string := by kernel_rfl
theorem uBool : (Tryd.prog).underlying 4 = some .bool := by kernel_rfl
theorem uInt : (Tryd.prog).underlying 3 = some (.int .i64) := by kernel_rfl
section
variable {H : Type} {enc : TypeId × Value → H} {w : World} {base : Nat} {spare : Nat → Bool} {held : Bool}
theorem one_of_len {cs : List Value} {n : Nat} {v : Value} (h : (cs.drop n).take 1 = [v]) : cs[n]? = some v := by
  have := congrArg (fun l => l[0]?) h
  simpa [List.getElem?_take, List.getElem?_drop] using this
theorem cells5 {cs : List Value} {a b c d e : Value} (hl : cs.length = 5) (h0 : cs[0]? = some a) (h1 : cs[1]? = some b) (h2 : cs[2]? = some c) (h3 : cs[3]? = some d) (h4 : cs[4]? = some e) : cs = [a, b, c, d, e] := by
  match cs, hl with
  | [x0, x1, x2, x3, x4], _ => simp at h0 h1 h2 h3 h4; simp [h0, h1, h2, h3, h4]
theorem cells3 {cs : List Value} {a b c : Value} (hl : cs.length = 3) (h0 : cs[0]? = some a) (h1 : cs[1]? = some b) (h2 : cs[2]? = some c) : cs = [a, b, c] := by
  match cs, hl with
  | [x0, x1, x2], _ => simp at h0 h1 h2; simp [h0, h1, h2]
theorem cells2 {cs : List Value} {a b : Value} (hl : cs.length = 2) (h0 : cs[0]? = some a) (h1 : cs[1]? = some b) : cs = [a, b] := by
  match cs, hl with
  | [x0, x1], _ => simp at h0 h1; simp [h0, h1]
theorem open_ver {fuel : Nat} {cs : List Value} {x : DataW H × List MemPlace} (h : DataW.trod enc Tryd.prog w base spare held fuel 59 cs = some x) : ∃ c n, cs = [.int .i64 c, .int .i64 n] := by
  have hu : (Tryd.prog).underlying 59 = some (.struct #[⟨"Counter", 3, 0, false, "", "", 0⟩, ⟨"Node", 3, 1, false, "", "", 8⟩]) := by kernel_rfl
  have hc : (Tryd.prog).cellsOf 59 = 2 := by kernel_rfl
  have hi : (Tryd.prog).cellsOf 3 = 1 := by kernel_rfl
  obtain ⟨y0, y1, n, _, hl, h0, h1⟩ := trod_struct2 hu h
  rw [hi] at h0 h1
  obtain ⟨c, e0, _⟩ := DataW.trod_int uInt h0
  obtain ⟨d, e1, _⟩ := DataW.trod_int uInt h1
  exact ⟨c, d, cells2 (by rw [hl, hc]) (one_of_len e0) (one_of_len e1)⟩
theorem open_ent {fuel : Nat} {cs : List Value} {x : DataW H × List MemPlace} (h : DataW.trod enc Tryd.prog w base spare held fuel 61 cs = some x) : ∃ e : Ent, cs = e.cells := by
  have hu : (Tryd.prog).underlying 61 = some (.struct #[⟨"Key", 9, 0, false, "", "", 0⟩, ⟨"Version", 59, 1, false, "", "", 16⟩, ⟨"Value", 9, 3, false, "", "", 32⟩, ⟨"Dead", 4, 4, false, "", "", 48⟩]) := by kernel_rfl
  have hc : (Tryd.prog).cellsOf 61 = 5 := by kernel_rfl
  have hs : (Tryd.prog).cellsOf 9 = 1 := by kernel_rfl
  have hb : (Tryd.prog).cellsOf 4 = 1 := by kernel_rfl
  have hv : (Tryd.prog).cellsOf 59 = 2 := by kernel_rfl
  obtain ⟨y0, y1, y2, y3, n, _, hl, h0, h1, h2, h3⟩ := Go.Joins.trod_struct4 hu h
  rw [hs] at h0 h2
  rw [hb] at h3
  rw [hv] at h1
  obtain ⟨k, e0, _⟩ := DataW.trod_string uStr h0
  obtain ⟨c, d, e1⟩ := open_ver h1
  obtain ⟨v, e2, _⟩ := DataW.trod_string uStr h2
  obtain ⟨b, e3, _⟩ := DataW.trod_bool uBool h3
  have e10 : cs[1]? = some (.int .i64 c) := by
    have := congrArg (fun l => l[0]?) e1
    simpa [List.getElem?_take, List.getElem?_drop] using this
  have e11 : cs[2]? = some (.int .i64 d) := by
    have := congrArg (fun l => l[1]?) e1
    simpa [List.getElem?_take, List.getElem?_drop] using this
  exact ⟨⟨k, c, d, v, b⟩, cells5 (by rw [hl, hc]) (one_of_len e0) e10 e11 (one_of_len e2) (one_of_len e3)⟩
theorem open_rng {fuel : Nat} {cs : List Value} {x : DataW H × List MemPlace} (h : DataW.trod enc Tryd.prog w base spare held fuel 24 cs = some x) : ∃ r : Rng, cs = [.string r.lo, .string r.hi, .bool r.op] := by
  have hu : (Tryd.prog).underlying 24 = some (.struct #[⟨"Lo", 9, 0, false, "", "", 0⟩, ⟨"Hi", 9, 1, false, "", "", 16⟩, ⟨"Open", 4, 2, false, "", "", 32⟩]) := by kernel_rfl
  have hc : (Tryd.prog).cellsOf 24 = 3 := by kernel_rfl
  have hs : (Tryd.prog).cellsOf 9 = 1 := by kernel_rfl
  have hb : (Tryd.prog).cellsOf 4 = 1 := by kernel_rfl
  obtain ⟨y0, y1, y2, n, _, hl, h0, h1, h2⟩ := trod_struct3 hu h
  rw [hs] at h0 h1
  rw [hb] at h2
  obtain ⟨k, e0, _⟩ := DataW.trod_string uStr h0
  obtain ⟨v, e1, _⟩ := DataW.trod_string uStr h1
  obtain ⟨b, e2, _⟩ := DataW.trod_bool uBool h2
  exact ⟨⟨k, v, b⟩, cells3 (by rw [hl, hc]) (one_of_len e0) (one_of_len e1) (one_of_len e2)⟩
/-- a slice of entries, opened: a row of cells -/
theorem open_ents {fuel : Nat} {cs : List Value} {x : DataW H × List MemPlace} (h : DataW.trod enc Tryd.prog w base spare held fuel 22 cs = some x) (hlt : ∀ y ∈ x.2, y.block < w.heap.size) :
    ∃ (b : Option Addr) (c : Nat) (L : List Ent), cs = [.slice b L.length c] ∧ InS w b (entCells L) ∧ L.length ≤ maxLen := by
  have hu : (Tryd.prog).underlying 22 = some (.slice 61) := by kernel_rfl
  have hc : (Tryd.prog).cellsOf 61 = 5 := by kernel_rfl
  rcases open_slice hu h with ⟨rfl, _⟩ | ⟨a, len, cap, m, n, D, Pl, rfl, _, hlc, hcm, hm, rfl, hx⟩
  · exact ⟨none, 0, [], rfl, .inl rfl, Nat.zero_le _⟩
  · rw [hc] at hx
    have hlm : len ≤ m := by rw [hm]; split <;> omega
    have key : ∀ k, k ≤ len → ∃ L : List Ent, L.length = k ∧ ∀ (j : Nat) (u : Value), (entCells L)[j]? = some u → w.cell? (a.add j) = some u := by
      intro k
      induction k with
      | zero => exact fun _ => ⟨[], rfl, fun j u hu => by simp [entCells] at hu⟩
      | succ k ih =>
        intro hk
        obtain ⟨L, hL, hL2⟩ := ih (by omega)
        obtain ⟨cs', h1, h2⟩ := hx k (by omega)
        obtain ⟨e, rfl⟩ := open_ent h2
        refine ⟨L ++ [e], by simp [hL], fun j u hu => ?_⟩
        have hcat : entCells (L ++ [e]) = entCells L ++ e.cells := by simp [entCells]
        rw [hcat] at hu
        rcases Nat.lt_or_ge j (entCells L).length with hj | hj
        · rw [List.getElem?_append_left hj] at hu; exact hL2 j u hu
        · rw [List.getElem?_append_right hj] at hu
          have hlen := entCells_len L
          obtain ⟨_, _, h3⟩ := World.cells?_some h1
          have hj5 : j - (entCells L).length < 5 := by
            have := (List.getElem?_eq_some_iff.1 hu).1
            simpa [Ent.cells] using this
          have := h3 (j - (entCells L).length) hj5
          rw [hu] at this
          rw [show a.add j = (a.add (k * 5)).add (j - (entCells L).length) from by
            rw [hlen, hL]
            rw [hlen, hL] at hj
            unfold Addr.add
            split <;> split <;> split <;> simp_all <;> omega]
          exact this
    obtain ⟨L, hL, hL2⟩ := key len (Nat.le_refl _)
    refine ⟨some a, cap, L, by rw [hL], ?_, by omega⟩
    rcases Nat.eq_zero_or_pos len with h0 | h0
    · exact .inl (by have : L = [] := List.eq_nil_of_length_eq_zero (by omega); rw [this]; rfl)
    · obtain ⟨u, hu⟩ : ∃ u, (entCells L)[0]? = some u := ⟨(entCells L)[0]'(by rw [entCells_len]; omega), by simp⟩
      have h00 := hL2 0 u hu
      have hsp : a.spot = none := by
        cases hs : a.spot with
        | none => rfl
        | some q =>
          exfalso
          have : (a.add 0) = a := by unfold Addr.add; simp
          rw [this] at h00
          unfold World.cell? at h00
          split at h00
          · simp [hs] at h00
          · cases h00
      obtain ⟨g, o, s⟩ := a
      simp only at hsp
      subst hsp
      refine .inr ⟨rfl, World.block_lt_of_cell? _ _ h00, fun j v hv => ?_⟩
      have e : ((⟨g, o, none⟩ : Addr).add j) = ⟨g, o + j, none⟩ := by unfold Addr.add; split <;> simp_all
      have := hL2 j v hv
      rw [e] at this
      exact this
end
end Go.Proofs.YtcopemgkjbaaeaaDoor
