/-
  MatchSame: the tied card.
-/
import Derived.Test.YtcopemgkjbaaeaaDoorMs
namespace Go.Proofs.YtcopemgkjbaaeaaDoor
set_option linter.all false
open Go
theorem matchSame_card : Rows.MatchSameCardSaid :=
  Claim7.holds_tied_plain_at .later [] [.data] true (true, "74140d0313133dc5918aa9f7c161e2803fa3ee313db1d9481bd9edc9c7ba2f20") true
    matchSame_said (fun _ h => by cases h) (by kernel_rfl) (fun _ h => by cases h) matchSame_row_tie rfl ⟨rfl, rfl⟩ (by kernel_rfl) rfl
    (fun f fn hf hfn => by
      obtain rfl : f = 3 := Option.some.inj ((show (Tryd.prog).funcNamed "tideline/tidelinelaw13.MatchSame" = some 3 by kernel_rfl).symm.trans hf) |>.symm
      obtain rfl : fn = Tryd.f3 := (Option.some.inj ((Tryd.func3).symm.trans hfn)).symm
      refine ⟨by kernel_rfl, fun j t ht => ?_⟩
      rw [Tryd.params3] at ht
      have hm := Array.mem_of_getElem? ht
      simp only [List.mem_toArray, List.mem_cons, List.not_mem_nil, or_false] at hm
      rcases hm with rfl | rfl | rfl | rfl
      · exact (show (Tryd.prog).wantsStandIn 22 = false by kernel_rfl)
      · exact (show (Tryd.prog).wantsStandIn 24 = false by kernel_rfl)
      · exact (show (Tryd.prog).wantsStandIn 3 = false by kernel_rfl)
      · exact (show (Tryd.prog).wantsStandIn 3 = false by kernel_rfl))
    (by kernel_rfl)
#print axioms matchSame_card
end Go.Proofs.YtcopemgkjbaaeaaDoor
