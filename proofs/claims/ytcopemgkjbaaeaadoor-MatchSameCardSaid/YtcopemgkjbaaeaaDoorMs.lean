/-
  MatchSame: the row's statement, the card.
-/
import Derived.Test.YtcopemgkjbaaeaaDoorLan
import Derived.Test.YtcopemgkjbaaeaaDoorCards
import Derived.Test.YtcopemgkjbaaeaaDoorTie
import Derived.ProofKit
import Derived.LaidLaws
import Derived.Handed
import Derived.SevenTiedAt
namespace Go.Proofs.YtcopemgkjbaaeaaDoor
set_option linter.all false
open Go Go.ChangeShapes Go.WideShapes Go.ChangeAt Go.RowKit

theorem agg_of {v a b c : Value} (h : v.cells.toList = [a, b, c]) : v = .agg #[a, b, c] := by
  cases v with
  | agg cs =>
    have h' : cs.toList = [a, b, c] := h
    rw [← Array.toArray_toList (xs := cs), h']
  | _ => exact absurd (congrArg List.length h) (by simp [Value.cells])
theorem own_ : ownKnob (Tryd.prog).godebug = none := by kernel_rfl
theorem laidOut_ : laidOutB Tryd.prog = true := by kernel_rfl
/-- The settled world, the lanes laid. -/
noncomputable def lanesWorld (os : Os) : World :=
  let w0 := World.holding Tryd.prog os ⟨#[], #[], []⟩
  { w0 with heap := w0.heap.modify 0 fun
      | .cells _ t frozen => .cells lanesV.toArray t frozen
      | o => o }
theorem laid_met (os : Os) (args : Array Value) : laidMet Tryd.prog Rows.matchSameRow.laid ((lanesWorld os).forCall (fun _ _ => 0) ⟨#[], args, []⟩).memory :=
  laidMet_of_run (ps := [.cell 0 0, .cell 0 1, .cell 0 2, .cell 0 3, .cell 0 4, .cell 0 5]) 8 (by kernel_rfl) (by kernel_rfl) (by kernel_rfl)
set_option maxRecDepth 100000 in
theorem matchSame_lifted (os : Os) (started : os.Started) (H : Type) (enc : TypeId × Value → H) :
    ReturnsInHanded {} Tryd.checked os 3 .any (fun w args => (Rows.matchSameSpec.pre enc Tryd.prog Tryd.f3 Rows.matchSameRow.domain false w args ∧ laidMet Tryd.prog Rows.matchSameRow.laid w) ∧ sizedMet enc Tryd.prog Tryd.f3 (OpenSpec.ofChange Rows.matchSameSpec) false w args)
      (Rows.matchSameSpec.post enc Tryd.prog Tryd.f3 false true false false) := by
  refine returnsInHanded_of_change_and (C := Tryd.checked) (X := fun w _ => laidMet Tryd.prog Rows.matchSameRow.laid w) (fun _ _ _ hh h => h.of_heap hh) own_ started (by kernel_rfl) Tryd.func3
    (ChangeSpec.witness_at (enc := enc) (C := Tryd.checked) (os := os) (X := fun w _ => laidMet Tryd.prog Rows.matchSameRow.laid w) false (lanesWorld os) #[.slice none 0 0, .agg #[.string ⟨#[]⟩, .string ⟨#[]⟩, .bool false], .int .i64 0, .int .i64 0] 8 rfl (by kernel_rfl) (by kernel_rfl) (by kernel_rfl) (by kernel_rfl) (by kernel_rfl) (laid_met os _)) ?_
  intro W base args ds gs before hval0 hW _ _ hL _
  have hval : ∀ (j : Nat) t v, (Tryd.f3).params[j]? = some t → args[j]? = some v → Value.okWide Tryd.prog W .any base t v := hval0
  have hW' := hW
  obtain ⟨p, q, hA0, hV, rfl, hfz, hnd⟩ := hW
  have hA : DataW.TrodAll enc Tryd.prog W 0 (fun _ => true) true (Tryd.f3).params.toList args.toList ds p := hA0
  rw [Tryd.params3] at hA hval
  have hblt := hW'.lt
  obtain ⟨v0, v1, v2, v3, d0, d1, d2, d3, p0, p1, p2, p3, rfl, rfl, rfl, h0, h1, h2, h3⟩ := trodAll_four hA
  obtain ⟨rfl, rfl⟩ := trodVars_none hV
  have hlan := lanes_of_laid hL (List.mem_singleton.2 rfl)
  obtain ⟨b0, n0, c0, rfl⟩ := okWide_slice (show (Tryd.prog).underlying 22 = some (.slice 61) by kernel_rfl) (hval 0 22 v0 rfl rfl)
  obtain ⟨n2, rfl, rfl, rfl, hw2⟩ := open_int uInt (hval 2 3 v2 rfl rfl) h2
  obtain ⟨n3, rfl, rfl, rfl, hw3⟩ := open_int uInt (hval 3 3 v3 rfl rfl) h3
  have hb0 : ∀ y ∈ p0, y.block < W.heap.size := fun y hy => hblt y (by simp [hy])
  have hb1 : ∀ y ∈ p1, y.block < W.heap.size := fun y hy => hblt y (by simp [hy])
  obtain ⟨b, c, L, hcs, hin, hLm⟩ : ∃ (b : Option Addr) (c : Nat) (L : List Ent), (Value.slice b0 n0 c0) = .slice b L.length c ∧ InS W b (entCells L) ∧ L.length ≤ maxLen := by
    obtain ⟨fuel, hf⟩ := h0
    obtain ⟨b, c, L, e1, e2, e3⟩ := open_ents hf hb0
    exact ⟨b, c, L, by simpa [Value.cells] using e1, e2, e3⟩
  obtain ⟨r, hr⟩ : ∃ r : Rng, v1 = r.v := by
    obtain ⟨fuel, hf⟩ := h1
    obtain ⟨r, e⟩ := open_rng hf
    exact ⟨r, agg_of e⟩
  subst hr
  have hLb : L.length ≤ 9223372036854775807 := by simp only [maxLen] at hLm; omega
  have hc := matchSame_cr (b := b) (c := c) L r n2 n3 hlan hin hLb
  rw [← hcs] at hc
  refine Calls.mono hc ?_
  rintro e W' ⟨v, rfl, rfl, hx⟩
  have hB := hx.below
  refine ⟨_, rfl, _, _, _, [], p0 ++ (p1 ++ ([] ++ [])), [], hW', ?_, ?_, rfl, hB.frame _, fun h => by cases h⟩
  · exact trodAll_mk1 (shut_bool uBool true)
  · exact trodAll_mk4 (Below.trod laidOut_ (by kernel_rfl) (of_decide_eq_true (by kernel_rfl)) h0 hB hb0) (Below.trod laidOut_ (by kernel_rfl) (of_decide_eq_true (by kernel_rfl)) h1 hB hb1) (shut_int uInt hw2) (shut_int uInt hw3)
theorem matchSame_said : Rows.MatchSameSaid :=
  OpenClaim.holds_of_wide 3 Tryd.f3 rfl rfl rfl rfl rfl rfl rfl ⟨rfl, rfl, rfl, rfl, rfl⟩ rfl rfl rfl rfl rfl (by kernel_rfl) Tryd.func3 (by kernel_rfl)
    (of_decide_eq_true (by kernel_rfl)) (by unfold Func.isWrapper; rw [if_neg (of_decide_eq_false (by kernel_rfl))]; exact ⟨rfl, rfl⟩)
    (fun os started H enc _ => matchSame_lifted os started H enc)
end Go.Proofs.YtcopemgkjbaaeaaDoor
