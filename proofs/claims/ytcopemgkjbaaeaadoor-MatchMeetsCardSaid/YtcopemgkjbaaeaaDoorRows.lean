/-
  NARROWER THAN 'FOR EVERY INPUT', by the rows' own cells (each row's printed sentence says how): MatchSame: laid · MatchMeets: laid · StoreFolds: laid · ImageTurned: laid · MatchTiles: laid · ImageGoesOn: laid.
  DERIVED. THE GIVEN ROWS OF THIS SEAT. 6 by the template 'for every input the law returns true; each argument reads behind the call as it read before'; 0 by the template 'total and deterministic' (their statements: YtcopemgkjbaaeaaDoorTotals.lean).
  GIVEN WITH THE SEED: the statements are not yours to turn. If you find one false, say at which input.
  Laid BY PROGRAM, IN A SANDBOX (cutbox-rows.mjs): the forced cells as the released guide's own fill.sh prints them over the translation 0bebcbfbbb4eb20d… (all of the seat's roots in one cut). By AI agents, Wed Nov 11 2026. No macro, syntax, notation, axiom, sorry.
-/
import Derived.Test.YtcopemgkjbaaeaaDoorChecked
import GoSem.Claim
import GoSem.ClaimJoined
import GoSem.ClaimMapViews
import Derived.JoinedTies
import Derived.KernelRfl
namespace Go.Proofs.YtcopemgkjbaaeaaDoor
/- THE CELL 'sum', in the pinned program and in every row, IS THE sha256 OF THE DUMP (.gsa) THAT YtcopemgkjbaaeaaDoorProg.lean LOADS. Nothing in Lean hashes anything: it is a label: what it is worth is what the hold of that sum in a sandbox is worth. -/
noncomputable def Tryd.pinned : Pinned := { name := "ytcopemgkjbaaeaadoor", sum := "0bebcbfbbb4eb20da8b0d08884bec0a97881e87f3f322a23cc247b12ea483dcc", checked := Tryd.checked }
namespace Rows
def none {H : Type} : Left H := { results := [], args := [] }

/- WHAT THE LISTED PACKAGE-LEVEL VARIABLES READ AS WHEN THE CALL BEGINS. Each datum BY PROGRAM (the guide's laid-datum.mjs) off the statement by which the dump's own 'gosem.cut.vars' lays the variable. In a bare row this is a premise. The card (YtcopemgkjbaaeaaDoorCards.lean) ties it to the program's text. -/
def laid_tideline_mix_lanes {H : Type} : DataW H := .agg [.agg [.lit (.int .u64 2611923443488327891), .lit (.int .u64 11400714819323198485), .lit (.int .i64 29)], .agg [.lit (.int .u64 1376283091369227076), .lit (.int .u64 14029467366897019727), .lit (.int .i64 32)]]

/-- 'tidelinelaw13.MatchSame': WHATEVER THE INPUT: true; the input reads as it did. -/
def matchSameSpec : ChangeSpec := { name := "matchSame", fn := fun _ => fun
  | [d1, d2, d3, d4] => { results := [.lit (.bool true)], args := [d1, d2, d3, d4] }
  | _ => none }
def matchSameRow : OpenClaim := { program := "ytcopemgkjbaaeaadoor", sum := "0bebcbfbbb4eb20da8b0d08884bec0a97881e87f3f322a23cc247b12ea483dcc", func := "tideline/tidelinelaw13.MatchSame", spec := "matchSame", unfollowed := true, recurses := true, named := ["tideline/mix.lanes"], apart := false, laid := [("tideline/mix.lanes", laid_tideline_mix_lanes)] }
def MatchSameSaid : Prop := matchSameRow.holds Tryd.pinned (OpenSpec.ofChange matchSameSpec)

/-- ITS FALSE NEIGHBOUR: 'it returns false'. Refute it at one input. -/
def matchSameWrong : ChangeSpec := { name := "matchSame", fn := fun _ => fun
  | [d1, d2, d3, d4] => { results := [.lit (.bool false)], args := [d1, d2, d3, d4] }
  | _ => none }
def MatchSameWrongFalsely : Prop := matchSameRow.holds Tryd.pinned (OpenSpec.ofChange matchSameWrong)

/-- 'tidelinelaw13.MatchMeets': WHATEVER THE INPUT: true; the input reads as it did. -/
def matchMeetsSpec : ChangeSpec := { name := "matchMeets", fn := fun _ => fun
  | [d1, d2, d3] => { results := [.lit (.bool true)], args := [d1, d2, d3] }
  | _ => none }
def matchMeetsRow : OpenClaim := { program := "ytcopemgkjbaaeaadoor", sum := "0bebcbfbbb4eb20da8b0d08884bec0a97881e87f3f322a23cc247b12ea483dcc", func := "tideline/tidelinelaw13.MatchMeets", spec := "matchMeets", unfollowed := true, recurses := true, named := ["tideline/mix.lanes"], apart := false, laid := [("tideline/mix.lanes", laid_tideline_mix_lanes)] }
def MatchMeetsSaid : Prop := matchMeetsRow.holds Tryd.pinned (OpenSpec.ofChange matchMeetsSpec)

/-- ITS FALSE NEIGHBOUR: 'it returns false'. Refute it at one input. -/
def matchMeetsWrong : ChangeSpec := { name := "matchMeets", fn := fun _ => fun
  | [d1, d2, d3] => { results := [.lit (.bool false)], args := [d1, d2, d3] }
  | _ => none }
def MatchMeetsWrongFalsely : Prop := matchMeetsRow.holds Tryd.pinned (OpenSpec.ofChange matchMeetsWrong)

/-- 'tidelinelaw08.StoreFolds': WHATEVER THE INPUT: true; the input reads as it did. -/
def storeFoldsSpec : ChangeSpec := { name := "storeFolds", fn := fun _ => fun
  | [d1, d2, d3] => { results := [.lit (.bool true)], args := [d1, d2, d3] }
  | _ => none }
def storeFoldsRow : OpenClaim := { program := "ytcopemgkjbaaeaadoor", sum := "0bebcbfbbb4eb20da8b0d08884bec0a97881e87f3f322a23cc247b12ea483dcc", func := "tideline/tidelinelaw08.StoreFolds", spec := "storeFolds", unfollowed := true, recurses := true, named := ["tideline/mix.lanes"], apart := false, laid := [("tideline/mix.lanes", laid_tideline_mix_lanes)] }
def StoreFoldsSaid : Prop := storeFoldsRow.holds Tryd.pinned (OpenSpec.ofChange storeFoldsSpec)

/-- ITS FALSE NEIGHBOUR: 'it returns false'. Refute it at one input. -/
def storeFoldsWrong : ChangeSpec := { name := "storeFolds", fn := fun _ => fun
  | [d1, d2, d3] => { results := [.lit (.bool false)], args := [d1, d2, d3] }
  | _ => none }
def StoreFoldsWrongFalsely : Prop := storeFoldsRow.holds Tryd.pinned (OpenSpec.ofChange storeFoldsWrong)

/-- 'tidelinelaw10.ImageTurned': WHATEVER THE INPUT: true; the input reads as it did. -/
def imageTurnedSpec : ChangeSpec := { name := "imageTurned", fn := fun _ => fun
  | [d1, d2, d3] => { results := [.lit (.bool true)], args := [d1, d2, d3] }
  | _ => none }
def imageTurnedRow : OpenClaim := { program := "ytcopemgkjbaaeaadoor", sum := "0bebcbfbbb4eb20da8b0d08884bec0a97881e87f3f322a23cc247b12ea483dcc", func := "tideline/tidelinelaw10.ImageTurned", spec := "imageTurned", unfollowed := true, recurses := true, named := ["tideline/mix.lanes"], apart := false, laid := [("tideline/mix.lanes", laid_tideline_mix_lanes)] }
def ImageTurnedSaid : Prop := imageTurnedRow.holds Tryd.pinned (OpenSpec.ofChange imageTurnedSpec)

/-- ITS FALSE NEIGHBOUR: 'it returns false'. Refute it at one input. -/
def imageTurnedWrong : ChangeSpec := { name := "imageTurned", fn := fun _ => fun
  | [d1, d2, d3] => { results := [.lit (.bool false)], args := [d1, d2, d3] }
  | _ => none }
def ImageTurnedWrongFalsely : Prop := imageTurnedRow.holds Tryd.pinned (OpenSpec.ofChange imageTurnedWrong)

/-- 'tidelinelaw13.MatchTiles': WHATEVER THE INPUT: true; the input reads as it did. -/
def matchTilesSpec : ChangeSpec := { name := "matchTiles", fn := fun _ => fun
  | [d1, d2, d3, d4] => { results := [.lit (.bool true)], args := [d1, d2, d3, d4] }
  | _ => none }
def matchTilesRow : OpenClaim := { program := "ytcopemgkjbaaeaadoor", sum := "0bebcbfbbb4eb20da8b0d08884bec0a97881e87f3f322a23cc247b12ea483dcc", func := "tideline/tidelinelaw13.MatchTiles", spec := "matchTiles", unfollowed := true, recurses := true, named := ["tideline/mix.lanes"], apart := false, laid := [("tideline/mix.lanes", laid_tideline_mix_lanes)] }
def MatchTilesSaid : Prop := matchTilesRow.holds Tryd.pinned (OpenSpec.ofChange matchTilesSpec)

/-- ITS FALSE NEIGHBOUR: 'it returns false'. Refute it at one input. -/
def matchTilesWrong : ChangeSpec := { name := "matchTiles", fn := fun _ => fun
  | [d1, d2, d3, d4] => { results := [.lit (.bool false)], args := [d1, d2, d3, d4] }
  | _ => none }
def MatchTilesWrongFalsely : Prop := matchTilesRow.holds Tryd.pinned (OpenSpec.ofChange matchTilesWrong)

/-- 'tidelinelaw10.ImageGoesOn': WHATEVER THE INPUT: true; the input reads as it did. -/
def imageGoesOnSpec : ChangeSpec := { name := "imageGoesOn", fn := fun _ => fun
  | [d1, d2, d3] => { results := [.lit (.bool true)], args := [d1, d2, d3] }
  | _ => none }
def imageGoesOnRow : OpenClaim := { program := "ytcopemgkjbaaeaadoor", sum := "0bebcbfbbb4eb20da8b0d08884bec0a97881e87f3f322a23cc247b12ea483dcc", func := "tideline/tidelinelaw10.ImageGoesOn", spec := "imageGoesOn", unfollowed := true, recurses := true, named := ["tideline/mix.lanes"], apart := false, laid := [("tideline/mix.lanes", laid_tideline_mix_lanes)] }
def ImageGoesOnSaid : Prop := imageGoesOnRow.holds Tryd.pinned (OpenSpec.ofChange imageGoesOnSpec)

/-- ITS FALSE NEIGHBOUR: 'it returns false'. Refute it at one input. -/
def imageGoesOnWrong : ChangeSpec := { name := "imageGoesOn", fn := fun _ => fun
  | [d1, d2, d3] => { results := [.lit (.bool false)], args := [d1, d2, d3] }
  | _ => none }
def ImageGoesOnWrongFalsely : Prop := imageGoesOnRow.holds Tryd.pinned (OpenSpec.ofChange imageGoesOnWrong)

/- THE SECOND FORM. 'bulk': how many values and letters a reading holds, each counted each time it is reached (what is shared counts as often as it is met; a slice's spare places count too). A statement '..UptoSaid' is the law's where the arguments, and the package variables that the reading takes, are together of bulk at most 1048576: NARROWER than '..Said'. Prove '..Said' where nothing that the law and all that it calls make is longer than what came in: it says more and counts as full. Else prove '..UptoSaid'. A law counts once. -/
mutual
def uptoBulk {H : Type} : DataW H → Nat
  | .lit (.string bytes) => bytes.length + 1
  | .lit _ => 1
  | .nil => 1
  | .ptr d => uptoBulk d + 1
  | .slice elems spare => uptoBulkAll elems + uptoBulkAll spare + 1
  | .agg parts => uptoBulkAll parts + 1
  | .iface _ d => uptoBulk d + 1
  | .map entries => uptoBulkEntries entries + 1
  | .held _ => 1
def uptoBulkAll {H : Type} : List (DataW H) → Nat
  | [] => 0
  | d :: r => uptoBulk d + uptoBulkAll r
def uptoBulkEntries {H : Type} : List (Lit × DataW H) → Nat
  | [] => 0
  | x :: r => uptoBulkEntry x + uptoBulkEntries r
def uptoBulkEntry {H : Type} : Lit × DataW H → Nat
  | (.string bytes, d) => bytes.length + uptoBulk d + 1
  | (_, d) => uptoBulk d + 1
 end
def uptoSmall : (H : Type) → List (DataW H) → Bool := fun _ ds => decide (uptoBulkAll ds ≤ 1048576)
def OpenSpec.upto (s : _root_.Go.ChangeSpec) : _root_.Go.OpenSpec := { _root_.Go.OpenSpec.ofChange s with cond := some uptoSmall }

/-- 'tidelinelaw13.MatchSame', WHERE WHAT IT READS IS OF BULK AT MOST 1048576: true; the input reads as it did. -/
def matchSameUptoRow : OpenClaim := { program := "ytcopemgkjbaaeaadoor", sum := "0bebcbfbbb4eb20da8b0d08884bec0a97881e87f3f322a23cc247b12ea483dcc", func := "tideline/tidelinelaw13.MatchSame", spec := "matchSame", unfollowed := true, recurses := true, named := ["tideline/mix.lanes"], apart := false, laid := [("tideline/mix.lanes", laid_tideline_mix_lanes)], narrowed := true }
def MatchSameUptoSaid : Prop := matchSameUptoRow.holds Tryd.pinned (OpenSpec.upto matchSameSpec)

/-- 'tidelinelaw13.MatchMeets', WHERE WHAT IT READS IS OF BULK AT MOST 1048576: true; the input reads as it did. -/
def matchMeetsUptoRow : OpenClaim := { program := "ytcopemgkjbaaeaadoor", sum := "0bebcbfbbb4eb20da8b0d08884bec0a97881e87f3f322a23cc247b12ea483dcc", func := "tideline/tidelinelaw13.MatchMeets", spec := "matchMeets", unfollowed := true, recurses := true, named := ["tideline/mix.lanes"], apart := false, laid := [("tideline/mix.lanes", laid_tideline_mix_lanes)], narrowed := true }
def MatchMeetsUptoSaid : Prop := matchMeetsUptoRow.holds Tryd.pinned (OpenSpec.upto matchMeetsSpec)

/-- 'tidelinelaw08.StoreFolds', WHERE WHAT IT READS IS OF BULK AT MOST 1048576: true; the input reads as it did. -/
def storeFoldsUptoRow : OpenClaim := { program := "ytcopemgkjbaaeaadoor", sum := "0bebcbfbbb4eb20da8b0d08884bec0a97881e87f3f322a23cc247b12ea483dcc", func := "tideline/tidelinelaw08.StoreFolds", spec := "storeFolds", unfollowed := true, recurses := true, named := ["tideline/mix.lanes"], apart := false, laid := [("tideline/mix.lanes", laid_tideline_mix_lanes)], narrowed := true }
def StoreFoldsUptoSaid : Prop := storeFoldsUptoRow.holds Tryd.pinned (OpenSpec.upto storeFoldsSpec)

/-- 'tidelinelaw10.ImageTurned', WHERE WHAT IT READS IS OF BULK AT MOST 1048576: true; the input reads as it did. -/
def imageTurnedUptoRow : OpenClaim := { program := "ytcopemgkjbaaeaadoor", sum := "0bebcbfbbb4eb20da8b0d08884bec0a97881e87f3f322a23cc247b12ea483dcc", func := "tideline/tidelinelaw10.ImageTurned", spec := "imageTurned", unfollowed := true, recurses := true, named := ["tideline/mix.lanes"], apart := false, laid := [("tideline/mix.lanes", laid_tideline_mix_lanes)], narrowed := true }
def ImageTurnedUptoSaid : Prop := imageTurnedUptoRow.holds Tryd.pinned (OpenSpec.upto imageTurnedSpec)

/-- 'tidelinelaw13.MatchTiles', WHERE WHAT IT READS IS OF BULK AT MOST 1048576: true; the input reads as it did. -/
def matchTilesUptoRow : OpenClaim := { program := "ytcopemgkjbaaeaadoor", sum := "0bebcbfbbb4eb20da8b0d08884bec0a97881e87f3f322a23cc247b12ea483dcc", func := "tideline/tidelinelaw13.MatchTiles", spec := "matchTiles", unfollowed := true, recurses := true, named := ["tideline/mix.lanes"], apart := false, laid := [("tideline/mix.lanes", laid_tideline_mix_lanes)], narrowed := true }
def MatchTilesUptoSaid : Prop := matchTilesUptoRow.holds Tryd.pinned (OpenSpec.upto matchTilesSpec)

/-- 'tidelinelaw10.ImageGoesOn', WHERE WHAT IT READS IS OF BULK AT MOST 1048576: true; the input reads as it did. -/
def imageGoesOnUptoRow : OpenClaim := { program := "ytcopemgkjbaaeaadoor", sum := "0bebcbfbbb4eb20da8b0d08884bec0a97881e87f3f322a23cc247b12ea483dcc", func := "tideline/tidelinelaw10.ImageGoesOn", spec := "imageGoesOn", unfollowed := true, recurses := true, named := ["tideline/mix.lanes"], apart := false, laid := [("tideline/mix.lanes", laid_tideline_mix_lanes)], narrowed := true }
def ImageGoesOnUptoSaid : Prop := imageGoesOnUptoRow.holds Tryd.pinned (OpenSpec.upto imageGoesOnSpec)

end Rows
end Go.Proofs.YtcopemgkjbaaeaaDoor
