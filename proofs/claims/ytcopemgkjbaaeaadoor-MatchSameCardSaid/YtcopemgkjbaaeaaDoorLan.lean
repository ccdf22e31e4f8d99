/-
  From the row's condition to the lanes in memory.
-/
import Derived.Test.YtcopemgkjbaaeaaDoorOpn
import Derived.Test.YtcopemgkjbaaeaaDoorRows
import Derived.OpenShut
import Derived.MakeChecks
namespace Go.Proofs.YtcopemgkjbaaeaaDoor
set_option linter.all false
open Go.RowKit Go.ChangeShapes Go.WideShapes Go.Deep

theorem uU64 : (Tryd.prog).underlying 28 = some (.int .u64) := by kernel_rfl
theorem open_lane {w : World} {base : Nat} {spare : Nat → Bool} {held : Bool} {H : Type} {enc : TypeId × Value → H} {fuel : Nat} {cs : List Value} {x : DataW H × List MemPlace} (h : DataW.trod enc Tryd.prog w base spare held fuel 215 cs = some x) :
    ∃ a b c, cs = [.int .u64 a, .int .u64 b, .int .i64 c] ∧ x.1 = .agg [.lit (.int .u64 a), .lit (.int .u64 b), .lit (.int .i64 c)] := by
  have hu : (Tryd.prog).underlying 215 = some (.struct #[⟨"begin", 28, 0, false, "", "tideline/mix", 0⟩, ⟨"factor", 28, 1, false, "", "tideline/mix", 8⟩, ⟨"shift", 3, 2, false, "", "tideline/mix", 16⟩]) := by kernel_rfl
  have hc : (Tryd.prog).cellsOf 215 = 3 := by kernel_rfl
  have hs : (Tryd.prog).cellsOf 28 = 1 := by kernel_rfl
  have hi : (Tryd.prog).cellsOf 3 = 1 := by kernel_rfl
  obtain ⟨y0, y1, y2, n, rfl, hl, h0, h1, h2⟩ := trod_struct3 hu h
  rw [hs] at h0 h1
  rw [hi] at h2
  obtain ⟨a, e0, rfl, _⟩ := DataW.trod_int uU64 h0
  obtain ⟨b, e1, rfl, _⟩ := DataW.trod_int uU64 h1
  obtain ⟨c, e2, rfl, _⟩ := DataW.trod_int uInt h2
  exact ⟨a, b, c, cells3 (by rw [hl, hc]) (one_of_len e0) (one_of_len e1) (one_of_len e2), rfl⟩
theorem lanes_of_laid {w : World} {l : List (String × DataW Unit)} (h : laidMet Tryd.prog l w) (hm : ("tideline/mix.lanes", Rows.laid_tideline_mix_lanes) ∈ l) : Lanes w := by
  obtain ⟨g, t, cs, fuel, p, h1, h2, h3, h4⟩ := Go.Lib.laidMet.reads h hm
  obtain rfl := Option.some.inj ((show (Tryd.prog).globalNamed "tideline/mix.lanes" = some 0 by kernel_rfl).symm.trans h1)
  obtain rfl := Option.some.inj ((show ((Tryd.prog).globals[0]?).map (·.type) = some 216 by kernel_rfl).symm.trans h2)
  have hu : (Tryd.prog).underlying 216 = some (.array 2 215) := by kernel_rfl
  have hc : (Tryd.prog).cellsOf 216 = 6 := by kernel_rfl
  have hl3 : (Tryd.prog).cellsOf 215 = 3 := by kernel_rfl
  obtain ⟨xs, m, _, hx, hl, hxl, hall⟩ := DataW.trod_array hu h4
  match xs, hxl with
  | [x0, x1], _ =>
    have a0 := hall 0 (by decide)
    have a1 := hall 1 (by decide)
    rw [hl3] at a0 a1
    obtain ⟨a, b, c, e0, f0⟩ := open_lane a0
    obtain ⟨a', b', c', e1, f1⟩ := open_lane a1
    have hd := congrArg Prod.fst hx
    simp only [List.map_cons, List.map_nil, f0, f1, Rows.laid_tideline_mix_lanes] at hd
    injection hd with hd
    simp only [List.cons.injEq, DataW.agg.injEq, DataW.lit.injEq, Lit.int.injEq, true_and, and_true] at hd
    obtain ⟨⟨q1, q2, q3⟩, q4, q5, q6⟩ := hd
    have hlen : cs.toList.length = 6 := by rw [hl, hc]
    have hcs : cs.toList = lanesV := by
      have hsplit : cs.toList = (cs.toList.drop (0 * 3)).take 3 ++ (cs.toList.drop (1 * 3)).take 3 := by
        have h5 : (cs.toList.drop (1 * 3)).take 3 = cs.toList.drop 3 := List.take_of_length_le (by simp only [List.length_drop]; omega)
        rw [h5]; exact (List.take_append_drop 3 cs.toList).symm
      rw [hsplit, e0, e1, ← q1, ← q2, ← q3, ← q4, ← q5, ← q6]; rfl
    unfold World.var? at h3
    rw [h1] at h3
    simp only [Option.bind_some] at h3
    split at h3
    · rename_i cs2 t fr hh
      injection h3 with h3
      subst h3
      exact ⟨t, fr, by rw [hh, ← hcs]⟩
    · cases h3
end Go.Proofs.YtcopemgkjbaaeaaDoor
