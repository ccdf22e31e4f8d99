/-
  mix: stir, Of; tally.Of.
-/
import Derived.Test.YtcopemgkjbaaeaaDoorStr
namespace Go.Proofs.YtcopemgkjbaaeaaDoor
set_option linter.all false
open Go.RowKit

def lanesV : List Value := [.int .u64 2611923443488327891, .int .u64 11400714819323198485, .int .i64 29, .int .u64 1376283091369227076, .int .u64 14029467366897019727, .int .i64 32]
/-- the global mix.lanes, block 0, holds what the program's text lays there -/
def Lanes (w : World) : Prop := ∃ t fr, w.heap[0]? = some (.cells lanesV.toArray t fr)
theorem Lanes.lt {w : World} (h : Lanes w) : 0 < w.heap.size := by obtain ⟨t, fr, h⟩ := h; exact (Array.getElem?_eq_some_iff.1 h).1
theorem Lanes.ext {w w' : World} {X : List Nat} (h : Lanes w) (hx : Ext X w w') (h0 : 0 ∉ X) : Lanes w' := by
  obtain ⟨t, fr, h1⟩ := h
  exact ⟨t, fr, by rw [hx.block 0 (Array.getElem?_eq_some_iff.1 h1).1 h0]; exact h1⟩
theorem Lanes.cell {w : World} (h : Lanes w) (i : Nat) : w.cell? ⟨0, i, none⟩ = lanesV[i]? := by
  obtain ⟨t, fr, h1⟩ := h
  simp [World.cell?, h1]
theorem Lanes.load1 {P : Program} {w : World} {t : TypeId} {i : Nat} {v : Value} (h : Lanes w) (ht : NAgg P t) (hi : lanesV[i]? = some v) : (Instr.loadAt t (.pointer (some ⟨0, i, none⟩))).run P w = .ok v w := by
  have hc := h.cell i
  rw [hi] at hc
  simp [Instr.loadAt, Instr.sureAddr, loadVar, ht w, load, Sem.run, hc]
theorem Lanes.cells {P : Program} {w : World} (h : Lanes w) : ∀ (k i j : Nat) (acc : Array Value), i + j + k ≤ lanesV.length → (loadCellsFrom ⟨0, i, none⟩ j k acc).run P w = .ok (acc ++ ((lanesV.drop (i + j)).take k).toArray) w
  | 0, i, j, acc, _ => by simp [loadCellsFrom]
  | k + 1, i, j, acc, hle => by
    have hlt : i + j < lanesV.length := by omega
    have hc : w.cell? ((⟨0, i, none⟩ : Addr).add j) = some (lanesV[i + j]) := by
      have e : ((⟨0, i, none⟩ : Addr).add j) = ⟨0, i + j, none⟩ := by unfold Addr.add; split <;> simp_all
      rw [e, h.cell]; simp [hlt]
    simp only [loadCellsFrom, load]
    simp only [Sem.run_bind, Sem.run, hc, Result.andThen_ok]
    rw [h.cells k i (j + 1) _ (by omega)]
    congr 1
    rw [List.drop_eq_getElem_cons hlt, List.take_succ_cons, show i + (j + 1) = i + j + 1 from by omega]
    simp
theorem Lanes.loadN {P : Program} {w : World} {t : TypeId} {sz i : Nat} {vs : List Value} (h : Lanes w) (ht : Agg P t sz) (hi : (lanesV.drop i).take sz = vs) (hle : Nat.ble (i + sz) lanesV.length = true) :
    (Instr.loadAt t (.pointer (some ⟨0, i, none⟩))).run P w = .ok (.agg vs.toArray) w := by
  have hr := h.cells (P := P) sz i 0 #[] (by simpa [Nat.ble_eq] using hle)
  simp only [Instr.loadAt, Instr.sureAddr, loadVar, loadCells]
  simp [ht.1 w, ht.2 w, hr, hi]

theorem stir_cr {w : World} {g : Nat} (a b x : Int) (hl : Lanes w) (hg : Blk w g 30 #[.int .u64 a, .int .u64 b]) (hg0 : g ≠ 0) :
    CR Tryd.prog 143 [.pointer (some ⟨g, 0, none⟩), .int .u64 x] w fun v w' => v = .tuple #[] ∧ Blk w' g 30 #[.int .u64 (stirL 11400714819323198485 29 a x), .int .u64 (stirL 14029467366897019727 32 b x)] ∧ Ext [g] w w' := by
  have hn0 : 0 ∉ [g] := by simpa using hg0.symm
  have st := (St.init w [g]).add hg (by simp)
  have hlt := hg.lt
  refine CR_enter Tryd.func143 rfl Tryd.ntmps143 rfl ?_
  refine W_seq ?_
  refine W_region ?_
  refine RP_seg 2 [.l 216 (.pointer (some ⟨0, 0, none⟩)) (.agg #[.int .u64 2611923443488327891, .int .u64 11400714819323198485, .int .i64 29, .int .u64 1376283091369227076, .int .u64 14029467366897019727, .int .i64 32]), .p (.int .i64 0)] [0, 1, 7, 8] (by kernel_rfl) (fun _ => by kernel_rfl) (by kernel_rfl : pick _ _ = some [(0, .pointer (some ⟨g, 0, none⟩)), (1, .int .u64 x), (7, .agg #[.int .u64 2611923443488327891, .int .u64 11400714819323198485, .int .i64 29, .int .u64 1376283091369227076, .int .u64 14029467366897019727, .int .i64 32]), (8, .int .i64 0)]) ⟨Lanes.loadN (hl.ext st.ext hn0) agg_216 rfl rfl, trivial⟩ ?_
  refine RP_pick [0, 1, 7, 8] (by kernel_rfl : pick _ _ = some [(0, .pointer (some ⟨g, 0, none⟩)), (1, .int .u64 x), (7, .agg #[.int .u64 2611923443488327891, .int .u64 11400714819323198485, .int .i64 29, .int .u64 1376283091369227076, .int .u64 14029467366897019727, .int .i64 32]), (8, .int .i64 0)]) ?_
  refine RP_nil ?_
  refine n_then ?_
  refine W_block ?_
  refine W_unroll 3 ?_
  refine W_seq ?_
  refine W_region ?_
  refine RP_seg 1 [.p (.bool true)] [0, 1, 7, 8, 9] (by kernel_rfl) (fun _ => by kernel_rfl) (by kernel_rfl : pick _ _ = some [(0, .pointer (some ⟨g, 0, none⟩)), (1, .int .u64 x), (7, .agg #[.int .u64 2611923443488327891, .int .u64 11400714819323198485, .int .i64 29, .int .u64 1376283091369227076, .int .u64 14029467366897019727, .int .i64 32]), (8, .int .i64 0), (9, .bool true)]) (trivial) ?_
  refine RP_pick [0, 1, 7, 8, 9] (by kernel_rfl : pick _ _ = some [(0, .pointer (some ⟨g, 0, none⟩)), (1, .int .u64 x), (7, .agg #[.int .u64 2611923443488327891, .int .u64 11400714819323198485, .int .i64 29, .int .u64 1376283091369227076, .int .u64 14029467366897019727, .int .i64 32]), (8, .int .i64 0), (9, .bool true)]) ?_
  refine RP_nil ?_
  refine n_then ?_
  refine W_seq ?_
  refine W_true rfl ?_
  refine W_skip ?_
  refine n_then ?_
  refine W_seq ?_
  refine W_block ?_
  refine W_seq ?_
  refine W_region ?_
  refine RP_seg 2 [.p (.int .i64 0), .p (.agg #[.int .u64 2611923443488327891, .int .u64 11400714819323198485, .int .i64 29])] [0, 1, 7, 8, 10, 11] (by kernel_rfl) (fun _ => by kernel_rfl) (by kernel_rfl : pick _ _ = some [(0, .pointer (some ⟨g, 0, none⟩)), (1, .int .u64 x), (7, .agg #[.int .u64 2611923443488327891, .int .u64 11400714819323198485, .int .i64 29, .int .u64 1376283091369227076, .int .u64 14029467366897019727, .int .i64 32]), (8, .int .i64 0), (10, .int .i64 0), (11, .agg #[.int .u64 2611923443488327891, .int .u64 11400714819323198485, .int .i64 29])]) (trivial) ?_
  refine RP_e rfl (ef_alloc st zero_215 rfl) ?_
  rintro _ w1 ⟨g4, rfl, hg4, hg4', st2, hx3⟩
  replace st2 : St [g] w w1 [(g4, 215, [.int .u64 0, .int .u64 0, .int .i64 0]), (g, 30, [.int .u64 a, .int .u64 b])] := st2
  refine RP_seg 1 [.p (.int .i64 0)] [0, 1, 4, 5, 7, 8, 11] (by kernel_rfl) (fun _ => by kernel_rfl) (by kernel_rfl : pick _ _ = some [(0, .pointer (some ⟨g, 0, none⟩)), (1, .int .u64 x), (4, .int .i64 0), (5, .pointer (some ⟨g4, 0, none⟩)), (7, .agg #[.int .u64 2611923443488327891, .int .u64 11400714819323198485, .int .i64 29, .int .u64 1376283091369227076, .int .u64 14029467366897019727, .int .i64 32]), (8, .int .i64 0), (11, .agg #[.int .u64 2611923443488327891, .int .u64 11400714819323198485, .int .i64 29])]) (trivial) ?_
  refine RP_e rfl (ef_store st2 rfl rfl rfl size_215 0 rfl rfl rfl rfl (.inr hg4)) ?_
  rintro _ w5 ⟨rfl, st6, hx7⟩
  replace st6 : St [g] w w5 [(g4, 215, [.int .u64 2611923443488327891, .int .u64 11400714819323198485, .int .i64 29]), (g, 30, [.int .u64 a, .int .u64 b])] := st6
  refine RP_pick [0, 1, 4, 5, 7, 8] (by kernel_rfl : pick _ _ = some [(0, .pointer (some ⟨g, 0, none⟩)), (1, .int .u64 x), (4, .int .i64 0), (5, .pointer (some ⟨g4, 0, none⟩)), (7, .agg #[.int .u64 2611923443488327891, .int .u64 11400714819323198485, .int .i64 29, .int .u64 1376283091369227076, .int .u64 14029467366897019727, .int .i64 32]), (8, .int .i64 0)]) ?_
  refine RP_nil ?_
  refine n_then ?_
  refine W_seq ?_
  -- region 3 draws: [(1, 0), (1, 1), (1, 2), (1, 3), (1, 4), (1, 5), (1, 6), (1, 7), (1, 8), (1, 9), (0, 10)]
  refine W_regionS (fun w' => Blk w' g4 215 [.int .u64 2611923443488327891, .int .u64 11400714819323198485, .int .i64 29].toArray ∧ Blk w' g 30 [.int .u64 a, .int .u64 b].toArray) [(1, 0), (1, 1), (1, 2), (1, 3), (1, 4), (1, 5), (1, 6), (1, 7), (1, 8), (1, 9), (0, 10)] 11 (by kernel_rfl) (by kernel_rfl) ?_
  have st8 := st6.drew
  refine RS_seg 10 [.p (.pointer (some ⟨g, 0, none⟩)), .p (.int .i64 0), .p (.pointer (some ⟨g, 0, none⟩)), .p (.pointer (some ⟨g, 0, none⟩)), .l 28 (.pointer (some ⟨g, 0, none⟩)) (.int .u64 a), .p (.int .u64 x), .p (.int .u64 (bits .xor .u64 a x)), .p (.pointer (some ⟨g4, 1, none⟩)), .l 28 (.pointer (some ⟨g4, 1, none⟩)) (.int .u64 11400714819323198485), .p (.int .u64 (IntKind.u64.wrap ((bits .xor .u64 a x) * 11400714819323198485)))] [0, 1, 4, 5, 7, 8, 21] (by kernel_rfl) (by kernel_rfl) (⟨st8.get 0 rfl, st8.get 1 rfl⟩) (by kernel_rfl) (fun _ => by kernel_rfl) (by kernel_rfl : pick _ _ = some [(0, .pointer (some ⟨g, 0, none⟩)), (1, .int .u64 x), (4, .int .i64 0), (5, .pointer (some ⟨g4, 0, none⟩)), (7, .agg #[.int .u64 2611923443488327891, .int .u64 11400714819323198485, .int .i64 29, .int .u64 1376283091369227076, .int .u64 14029467366897019727, .int .i64 32]), (8, .int .i64 0), (21, .int .u64 (IntKind.u64.wrap ((bits .xor .u64 a x) * 11400714819323198485)))]) (fun _ hS => ⟨ld1b (hS.2) nagg_28 rfl, ld1b (hS.1) nagg_28 rfl, trivial⟩) ?_
  refine RS_segP 1 [.p (.int .u64 (IntKind.u64.wrap ((bits .xor .u64 a x) * 11400714819323198485)))] [0, 1, 4, 5, 6, 7, 8] (by kernel_rfl) (by kernel_rfl) (by kernel_rfl) (fun _ => by kernel_rfl) (by kernel_rfl : pick _ _ = some [(0, .pointer (some ⟨g, 0, none⟩)), (1, .int .u64 x), (4, .int .i64 0), (5, .pointer (some ⟨g4, 0, none⟩)), (6, .int .u64 (IntKind.u64.wrap ((bits .xor .u64 a x) * 11400714819323198485))), (7, .agg #[.int .u64 2611923443488327891, .int .u64 11400714819323198485, .int .i64 29, .int .u64 1376283091369227076, .int .u64 14029467366897019727, .int .i64 32]), (8, .int .i64 0)]) (fun _ => trivial) ?_
  refine RS_pick [0, 1, 4, 5, 6, 7, 8] (by kernel_rfl : pick _ _ = some [(0, .pointer (some ⟨g, 0, none⟩)), (1, .int .u64 x), (4, .int .i64 0), (5, .pointer (some ⟨g4, 0, none⟩)), (6, .int .u64 (IntKind.u64.wrap ((bits .xor .u64 a x) * 11400714819323198485))), (7, .agg #[.int .u64 2611923443488327891, .int .u64 11400714819323198485, .int .i64 29, .int .u64 1376283091369227076, .int .u64 14029467366897019727, .int .i64 32]), (8, .int .i64 0)]) ?_
  refine RS_nil ?_
  refine n_then ?_
  -- region 4 draws: [(1, 0), (1, 1), (1, 2), (1, 3), (1, 4), (1, 5), (1, 6), (1, 7), (1, 8), (1, 9), (2, 10)]
  refine W_regionS (fun w' => Blk w' g4 215 [.int .u64 2611923443488327891, .int .u64 11400714819323198485, .int .i64 29].toArray) [(1, 0), (1, 1), (1, 2), (1, 3), (1, 4), (1, 5), (1, 6), (1, 7), (1, 8), (1, 9), (2, 10)] 11 (by kernel_rfl) (by kernel_rfl) ?_
  have st9 := st8.drew
  refine RS_seg 10 [.p (.pointer (some ⟨g, 0, none⟩)), .p (.int .i64 0), .p (.int .u64 (IntKind.u64.wrap ((bits .xor .u64 a x) * 11400714819323198485))), .p (.int .u64 (IntKind.u64.wrap ((bits .xor .u64 a x) * 11400714819323198485))), .p (.pointer (some ⟨g4, 2, none⟩)), .l 3 (.pointer (some ⟨g4, 2, none⟩)) (.int .i64 29), .p (.int .u64 ((IntKind.u64.wrap ((bits .xor .u64 a x) * 11400714819323198485)).fdiv (2 ^ 29))), .p (.int .u64 (bits .xor .u64 (IntKind.u64.wrap ((bits .xor .u64 a x) * 11400714819323198485)) ((IntKind.u64.wrap ((bits .xor .u64 a x) * 11400714819323198485)).fdiv (2 ^ 29)))), .p (.pointer (some ⟨g, 0, none⟩)), .p (.pointer (some ⟨g, 0, none⟩))] [0, 1, 7, 8, 29, 31] (by kernel_rfl) (by kernel_rfl) (st9.get 0 rfl) (by kernel_rfl) (fun _ => by kernel_rfl) (by kernel_rfl : pick _ _ = some [(0, .pointer (some ⟨g, 0, none⟩)), (1, .int .u64 x), (7, .agg #[.int .u64 2611923443488327891, .int .u64 11400714819323198485, .int .i64 29, .int .u64 1376283091369227076, .int .u64 14029467366897019727, .int .i64 32]), (8, .int .i64 0), (29, .int .u64 (bits .xor .u64 (IntKind.u64.wrap ((bits .xor .u64 a x) * 11400714819323198485)) ((IntKind.u64.wrap ((bits .xor .u64 a x) * 11400714819323198485)).fdiv (2 ^ 29)))), (31, .pointer (some ⟨g, 0, none⟩))]) (fun _ hS => ⟨ld1b (hS) nagg_3 rfl, trivial⟩) ?_
  refine RS_e rfl rfl (ef_store st9 rfl rfl rfl size_28 1 rfl rfl rfl rfl (.inl (by simp))) ?_
  rintro _ w10 ⟨rfl, st11, hx12⟩
  replace st11 : St [g] w w10 [(g4, 215, [.int .u64 2611923443488327891, .int .u64 11400714819323198485, .int .i64 29]), (g, 30, [.int .u64 (bits .xor .u64 (IntKind.u64.wrap ((bits .xor .u64 a x) * 11400714819323198485)) ((IntKind.u64.wrap ((bits .xor .u64 a x) * 11400714819323198485)).fdiv (2 ^ 29))), .int .u64 b])] := st11
  refine ⟨st11.get 0 rfl, ?_⟩
  refine RS_pick [0, 1, 7, 8] (by kernel_rfl : pick _ _ = some [(0, .pointer (some ⟨g, 0, none⟩)), (1, .int .u64 x), (7, .agg #[.int .u64 2611923443488327891, .int .u64 11400714819323198485, .int .i64 29, .int .u64 1376283091369227076, .int .u64 14029467366897019727, .int .i64 32]), (8, .int .i64 0)]) ?_
  refine RS_nil ?_
  refine n_block ?_
  refine n_then ?_
  refine W_region ?_
  refine RP_seg 2 [.p (.int .i64 1), .p (.int .i64 1)] [0, 1, 7, 8] (by kernel_rfl) (fun _ => by kernel_rfl) (by kernel_rfl : pick _ _ = some [(0, .pointer (some ⟨g, 0, none⟩)), (1, .int .u64 x), (7, .agg #[.int .u64 2611923443488327891, .int .u64 11400714819323198485, .int .i64 29, .int .u64 1376283091369227076, .int .u64 14029467366897019727, .int .i64 32]), (8, .int .i64 1)]) (trivial) ?_
  refine RP_pick [0, 1, 7, 8] (by kernel_rfl : pick _ _ = some [(0, .pointer (some ⟨g, 0, none⟩)), (1, .int .u64 x), (7, .agg #[.int .u64 2611923443488327891, .int .u64 11400714819323198485, .int .i64 29, .int .u64 1376283091369227076, .int .u64 14029467366897019727, .int .i64 32]), (8, .int .i64 1)]) ?_
  refine RP_nil ?_
  refine n_unr ?_
  refine W_seq ?_
  refine W_region ?_
  refine RP_seg 1 [.p (.bool true)] [0, 1, 7, 8, 9] (by kernel_rfl) (fun _ => by kernel_rfl) (by kernel_rfl : pick _ _ = some [(0, .pointer (some ⟨g, 0, none⟩)), (1, .int .u64 x), (7, .agg #[.int .u64 2611923443488327891, .int .u64 11400714819323198485, .int .i64 29, .int .u64 1376283091369227076, .int .u64 14029467366897019727, .int .i64 32]), (8, .int .i64 1), (9, .bool true)]) (trivial) ?_
  refine RP_pick [0, 1, 7, 8, 9] (by kernel_rfl : pick _ _ = some [(0, .pointer (some ⟨g, 0, none⟩)), (1, .int .u64 x), (7, .agg #[.int .u64 2611923443488327891, .int .u64 11400714819323198485, .int .i64 29, .int .u64 1376283091369227076, .int .u64 14029467366897019727, .int .i64 32]), (8, .int .i64 1), (9, .bool true)]) ?_
  refine RP_nil ?_
  refine n_then ?_
  refine W_seq ?_
  refine W_true rfl ?_
  refine W_skip ?_
  refine n_then ?_
  refine W_seq ?_
  refine W_block ?_
  refine W_seq ?_
  refine W_region ?_
  refine RP_seg 2 [.p (.int .i64 1), .p (.agg #[.int .u64 1376283091369227076, .int .u64 14029467366897019727, .int .i64 32])] [0, 1, 7, 8, 10, 11] (by kernel_rfl) (fun _ => by kernel_rfl) (by kernel_rfl : pick _ _ = some [(0, .pointer (some ⟨g, 0, none⟩)), (1, .int .u64 x), (7, .agg #[.int .u64 2611923443488327891, .int .u64 11400714819323198485, .int .i64 29, .int .u64 1376283091369227076, .int .u64 14029467366897019727, .int .i64 32]), (8, .int .i64 1), (10, .int .i64 1), (11, .agg #[.int .u64 1376283091369227076, .int .u64 14029467366897019727, .int .i64 32])]) (trivial) ?_
  refine RP_e rfl (ef_alloc st11 zero_215 rfl) ?_
  rintro _ w13 ⟨g16, rfl, hg16, hg16', st14, hx15⟩
  replace st14 : St [g] w w13 [(g16, 215, [.int .u64 0, .int .u64 0, .int .i64 0]), (g4, 215, [.int .u64 2611923443488327891, .int .u64 11400714819323198485, .int .i64 29]), (g, 30, [.int .u64 (bits .xor .u64 (IntKind.u64.wrap ((bits .xor .u64 a x) * 11400714819323198485)) ((IntKind.u64.wrap ((bits .xor .u64 a x) * 11400714819323198485)).fdiv (2 ^ 29))), .int .u64 b])] := st14
  refine RP_seg 1 [.p (.int .i64 1)] [0, 1, 4, 5, 7, 8, 11] (by kernel_rfl) (fun _ => by kernel_rfl) (by kernel_rfl : pick _ _ = some [(0, .pointer (some ⟨g, 0, none⟩)), (1, .int .u64 x), (4, .int .i64 1), (5, .pointer (some ⟨g16, 0, none⟩)), (7, .agg #[.int .u64 2611923443488327891, .int .u64 11400714819323198485, .int .i64 29, .int .u64 1376283091369227076, .int .u64 14029467366897019727, .int .i64 32]), (8, .int .i64 1), (11, .agg #[.int .u64 1376283091369227076, .int .u64 14029467366897019727, .int .i64 32])]) (trivial) ?_
  refine RP_e rfl (ef_store st14 rfl rfl rfl size_215 0 rfl rfl rfl rfl (.inr hg16)) ?_
  rintro _ w17 ⟨rfl, st18, hx19⟩
  replace st18 : St [g] w w17 [(g16, 215, [.int .u64 1376283091369227076, .int .u64 14029467366897019727, .int .i64 32]), (g4, 215, [.int .u64 2611923443488327891, .int .u64 11400714819323198485, .int .i64 29]), (g, 30, [.int .u64 (bits .xor .u64 (IntKind.u64.wrap ((bits .xor .u64 a x) * 11400714819323198485)) ((IntKind.u64.wrap ((bits .xor .u64 a x) * 11400714819323198485)).fdiv (2 ^ 29))), .int .u64 b])] := st18
  refine RP_pick [0, 1, 4, 5, 7, 8] (by kernel_rfl : pick _ _ = some [(0, .pointer (some ⟨g, 0, none⟩)), (1, .int .u64 x), (4, .int .i64 1), (5, .pointer (some ⟨g16, 0, none⟩)), (7, .agg #[.int .u64 2611923443488327891, .int .u64 11400714819323198485, .int .i64 29, .int .u64 1376283091369227076, .int .u64 14029467366897019727, .int .i64 32]), (8, .int .i64 1)]) ?_
  refine RP_nil ?_
  refine n_then ?_
  refine W_seq ?_
  -- region 3 draws: [(1, 0), (1, 1), (1, 2), (1, 3), (1, 4), (1, 5), (1, 6), (1, 7), (1, 8), (1, 9), (0, 10)]
  refine W_regionS (fun w' => Blk w' g16 215 [.int .u64 1376283091369227076, .int .u64 14029467366897019727, .int .i64 32].toArray ∧ Blk w' g 30 [.int .u64 (bits .xor .u64 (IntKind.u64.wrap ((bits .xor .u64 a x) * 11400714819323198485)) ((IntKind.u64.wrap ((bits .xor .u64 a x) * 11400714819323198485)).fdiv (2 ^ 29))), .int .u64 b].toArray) [(1, 0), (1, 1), (1, 2), (1, 3), (1, 4), (1, 5), (1, 6), (1, 7), (1, 8), (1, 9), (0, 10)] 11 (by kernel_rfl) (by kernel_rfl) ?_
  have st20 := st18.drew
  refine RS_seg 10 [.p (.pointer (some ⟨g, 0, none⟩)), .p (.int .i64 1), .p (.pointer (some ⟨g, 0, none⟩)), .p (.pointer (some ⟨g, 1, none⟩)), .l 28 (.pointer (some ⟨g, 1, none⟩)) (.int .u64 b), .p (.int .u64 x), .p (.int .u64 (bits .xor .u64 b x)), .p (.pointer (some ⟨g16, 1, none⟩)), .l 28 (.pointer (some ⟨g16, 1, none⟩)) (.int .u64 14029467366897019727), .p (.int .u64 (IntKind.u64.wrap ((bits .xor .u64 b x) * 14029467366897019727)))] [0, 1, 4, 5, 7, 8, 21] (by kernel_rfl) (by kernel_rfl) (⟨st20.get 0 rfl, st20.get 2 rfl⟩) (by kernel_rfl) (fun _ => by kernel_rfl) (by kernel_rfl : pick _ _ = some [(0, .pointer (some ⟨g, 0, none⟩)), (1, .int .u64 x), (4, .int .i64 1), (5, .pointer (some ⟨g16, 0, none⟩)), (7, .agg #[.int .u64 2611923443488327891, .int .u64 11400714819323198485, .int .i64 29, .int .u64 1376283091369227076, .int .u64 14029467366897019727, .int .i64 32]), (8, .int .i64 1), (21, .int .u64 (IntKind.u64.wrap ((bits .xor .u64 b x) * 14029467366897019727)))]) (fun _ hS => ⟨ld1b (hS.2) nagg_28 rfl, ld1b (hS.1) nagg_28 rfl, trivial⟩) ?_
  refine RS_segP 1 [.p (.int .u64 (IntKind.u64.wrap ((bits .xor .u64 b x) * 14029467366897019727)))] [0, 1, 4, 5, 6, 7, 8] (by kernel_rfl) (by kernel_rfl) (by kernel_rfl) (fun _ => by kernel_rfl) (by kernel_rfl : pick _ _ = some [(0, .pointer (some ⟨g, 0, none⟩)), (1, .int .u64 x), (4, .int .i64 1), (5, .pointer (some ⟨g16, 0, none⟩)), (6, .int .u64 (IntKind.u64.wrap ((bits .xor .u64 b x) * 14029467366897019727))), (7, .agg #[.int .u64 2611923443488327891, .int .u64 11400714819323198485, .int .i64 29, .int .u64 1376283091369227076, .int .u64 14029467366897019727, .int .i64 32]), (8, .int .i64 1)]) (fun _ => trivial) ?_
  refine RS_pick [0, 1, 4, 5, 6, 7, 8] (by kernel_rfl : pick _ _ = some [(0, .pointer (some ⟨g, 0, none⟩)), (1, .int .u64 x), (4, .int .i64 1), (5, .pointer (some ⟨g16, 0, none⟩)), (6, .int .u64 (IntKind.u64.wrap ((bits .xor .u64 b x) * 14029467366897019727))), (7, .agg #[.int .u64 2611923443488327891, .int .u64 11400714819323198485, .int .i64 29, .int .u64 1376283091369227076, .int .u64 14029467366897019727, .int .i64 32]), (8, .int .i64 1)]) ?_
  refine RS_nil ?_
  refine n_then ?_
  -- region 4 draws: [(1, 0), (1, 1), (1, 2), (1, 3), (1, 4), (1, 5), (1, 6), (1, 7), (1, 8), (1, 9), (2, 10)]
  refine W_regionS (fun w' => Blk w' g16 215 [.int .u64 1376283091369227076, .int .u64 14029467366897019727, .int .i64 32].toArray) [(1, 0), (1, 1), (1, 2), (1, 3), (1, 4), (1, 5), (1, 6), (1, 7), (1, 8), (1, 9), (2, 10)] 11 (by kernel_rfl) (by kernel_rfl) ?_
  have st21 := st20.drew
  refine RS_seg 10 [.p (.pointer (some ⟨g, 0, none⟩)), .p (.int .i64 1), .p (.int .u64 (IntKind.u64.wrap ((bits .xor .u64 b x) * 14029467366897019727))), .p (.int .u64 (IntKind.u64.wrap ((bits .xor .u64 b x) * 14029467366897019727))), .p (.pointer (some ⟨g16, 2, none⟩)), .l 3 (.pointer (some ⟨g16, 2, none⟩)) (.int .i64 32), .p (.int .u64 ((IntKind.u64.wrap ((bits .xor .u64 b x) * 14029467366897019727)).fdiv (2 ^ 32))), .p (.int .u64 (bits .xor .u64 (IntKind.u64.wrap ((bits .xor .u64 b x) * 14029467366897019727)) ((IntKind.u64.wrap ((bits .xor .u64 b x) * 14029467366897019727)).fdiv (2 ^ 32)))), .p (.pointer (some ⟨g, 0, none⟩)), .p (.pointer (some ⟨g, 1, none⟩))] [0, 1, 7, 8, 29, 31] (by kernel_rfl) (by kernel_rfl) (st21.get 0 rfl) (by kernel_rfl) (fun _ => by kernel_rfl) (by kernel_rfl : pick _ _ = some [(0, .pointer (some ⟨g, 0, none⟩)), (1, .int .u64 x), (7, .agg #[.int .u64 2611923443488327891, .int .u64 11400714819323198485, .int .i64 29, .int .u64 1376283091369227076, .int .u64 14029467366897019727, .int .i64 32]), (8, .int .i64 1), (29, .int .u64 (bits .xor .u64 (IntKind.u64.wrap ((bits .xor .u64 b x) * 14029467366897019727)) ((IntKind.u64.wrap ((bits .xor .u64 b x) * 14029467366897019727)).fdiv (2 ^ 32)))), (31, .pointer (some ⟨g, 1, none⟩))]) (fun _ hS => ⟨ld1b (hS) nagg_3 rfl, trivial⟩) ?_
  refine RS_e rfl rfl (ef_store st21 rfl rfl rfl size_28 2 rfl rfl rfl rfl (.inl (by simp))) ?_
  rintro _ w22 ⟨rfl, st23, hx24⟩
  replace st23 : St [g] w w22 [(g16, 215, [.int .u64 1376283091369227076, .int .u64 14029467366897019727, .int .i64 32]), (g4, 215, [.int .u64 2611923443488327891, .int .u64 11400714819323198485, .int .i64 29]), (g, 30, [.int .u64 (bits .xor .u64 (IntKind.u64.wrap ((bits .xor .u64 a x) * 11400714819323198485)) ((IntKind.u64.wrap ((bits .xor .u64 a x) * 11400714819323198485)).fdiv (2 ^ 29))), .int .u64 (bits .xor .u64 (IntKind.u64.wrap ((bits .xor .u64 b x) * 14029467366897019727)) ((IntKind.u64.wrap ((bits .xor .u64 b x) * 14029467366897019727)).fdiv (2 ^ 32)))])] := st23
  refine ⟨st23.get 0 rfl, ?_⟩
  refine RS_pick [0, 1, 7, 8] (by kernel_rfl : pick _ _ = some [(0, .pointer (some ⟨g, 0, none⟩)), (1, .int .u64 x), (7, .agg #[.int .u64 2611923443488327891, .int .u64 11400714819323198485, .int .i64 29, .int .u64 1376283091369227076, .int .u64 14029467366897019727, .int .i64 32]), (8, .int .i64 1)]) ?_
  refine RS_nil ?_
  refine n_block ?_
  refine n_then ?_
  refine W_region ?_
  refine RP_seg 2 [.p (.int .i64 2), .p (.int .i64 2)] [0, 1, 7, 8] (by kernel_rfl) (fun _ => by kernel_rfl) (by kernel_rfl : pick _ _ = some [(0, .pointer (some ⟨g, 0, none⟩)), (1, .int .u64 x), (7, .agg #[.int .u64 2611923443488327891, .int .u64 11400714819323198485, .int .i64 29, .int .u64 1376283091369227076, .int .u64 14029467366897019727, .int .i64 32]), (8, .int .i64 2)]) (trivial) ?_
  refine RP_pick [0, 1, 7, 8] (by kernel_rfl : pick _ _ = some [(0, .pointer (some ⟨g, 0, none⟩)), (1, .int .u64 x), (7, .agg #[.int .u64 2611923443488327891, .int .u64 11400714819323198485, .int .i64 29, .int .u64 1376283091369227076, .int .u64 14029467366897019727, .int .i64 32]), (8, .int .i64 2)]) ?_
  refine RP_nil ?_
  refine n_unr ?_
  refine W_seq ?_
  refine W_region ?_
  refine RP_seg 1 [.p (.bool false)] [0, 1, 7, 8, 9] (by kernel_rfl) (fun _ => by kernel_rfl) (by kernel_rfl : pick _ _ = some [(0, .pointer (some ⟨g, 0, none⟩)), (1, .int .u64 x), (7, .agg #[.int .u64 2611923443488327891, .int .u64 11400714819323198485, .int .i64 29, .int .u64 1376283091369227076, .int .u64 14029467366897019727, .int .i64 32]), (8, .int .i64 2), (9, .bool false)]) (trivial) ?_
  refine RP_pick [0, 1, 7, 8, 9] (by kernel_rfl : pick _ _ = some [(0, .pointer (some ⟨g, 0, none⟩)), (1, .int .u64 x), (7, .agg #[.int .u64 2611923443488327891, .int .u64 11400714819323198485, .int .i64 29, .int .u64 1376283091369227076, .int .u64 14029467366897019727, .int .i64 32]), (8, .int .i64 2), (9, .bool false)]) ?_
  refine RP_nil ?_
  refine n_then ?_
  refine W_seq ?_
  refine W_false rfl ?_
  refine W_exit ?_
  refine e_then <| e_unr <| e_here ?_
  refine end_of (P := Tryd.prog) (fn := Tryd.f143) (m := [(0, .pointer (some ⟨g, 0, none⟩)), (1, .int .u64 x), (7, .agg #[.int .u64 2611923443488327891, .int .u64 11400714819323198485, .int .i64 29, .int .u64 1376283091369227076, .int .u64 14029467366897019727, .int .i64 32]), (8, .int .i64 2), (9, .bool false)]) (w := w22) (res0 rfl ) ?_
  -- return 0: 
  exact ⟨rfl, st23.get 2 rfl, st23.ext⟩

theorem dec_w {n : Nat} (h : n < 1000000000) : IntKind.i64.wrap (((n : Nat) : Int) - 1) = ((n : Nat) : Int) - 1 := by rw [wrap_in (by omega) (by omega)]
theorem dec_w2 {n : Nat} (h0 : 0 < n) (h : n < 1000000000) : IntKind.i64.wrap (((n : Nat) : Int) - 1 - 1) = ((n - 1 : Nat) : Int) - 1 := by rw [wrap_in (by omega) (by omega)]; omega
theorem word_drop {l : List UInt8} {q : Nat} {b : UInt8} (h : l[q]? = some b) : keyWords.word (l.drop q) = (b.toNat : Int) + 256 * keyWords.word (l.drop (q + 1)) := by
  obtain ⟨h1, h2⟩ := List.getElem?_eq_some_iff.1 h
  rw [List.drop_eq_getElem_cons h1, h2, keyWords.word]
theorem min_w {n : Nat} : (if ((n : Nat) : Int) < 8 then ((n : Nat) : Int) else 8) = ((min 8 n : Nat) : Int) := by split <;> omega
theorem word_take_lt (l : List UInt8) {q n : Nat} (hq : 0 < q) (hn : n ≤ 8) : keyWords.word ((l.take n).drop q) < 72057594037927936 := by
  have h := word_lt ((l.take n).drop q)
  have h2 : ((l.take n).drop q).length ≤ 7 := by simp only [List.length_drop, List.length_take]; omega
  have h3 : 256 ^ ((l.take n).drop q).length ≤ 72057594037927936 := Nat.le_trans (Nat.pow_le_pow_right (by decide) h2) (by decide)
  have h4 : (((256 ^ ((l.take n).drop q).length : Nat)) : Int) = (256 : Int) ^ ((l.take n).drop q).length := by simp
  omega
theorem take_min (l : List UInt8) : l.take (min 8 l.length) = l.take 8 := by
  rcases Nat.le_total 8 l.length with h | h
  · rw [Nat.min_eq_left h]
  · rw [Nat.min_eq_right h, List.take_of_length_le (Nat.le_refl _), List.take_of_length_le h]
theorem drop_min (l : List UInt8) : l.drop (min 8 l.length) = l.drop 8 := by
  rcases Nat.le_total 8 l.length with h | h
  · rw [Nat.min_eq_left h]
  · rw [Nat.min_eq_right h, List.drop_of_length_le (Nat.le_refl _), List.drop_of_length_le h]

theorem mixOf_cr {w : World} (key : ByteArray) (c n : Int) (hl : Lanes w) (hk : key.size < 1000000000) :
    CR Tryd.prog 123 [.string key, .agg #[.int .i64 c, .int .i64 n]] w fun v w' => v = .agg #[.int .u64 (laneA (mixWords key c n)), .int .u64 (laneB (mixWords key c n))] ∧ Ext [] w w' := by
  have st := St.init w []
  have h0 := hl.lt
  obtain ⟨a1, ha1⟩ : ∃ a1, a1 = stirL 11400714819323198485 29 2611923443488327891 (IntKind.u64.wrap (((key).size : Nat) : Int)) := ⟨_, rfl⟩
  obtain ⟨b1, hb1⟩ : ∃ b1, b1 = stirL 14029467366897019727 32 1376283091369227076 (IntKind.u64.wrap (((key).size : Nat) : Int)) := ⟨_, rfl⟩
  refine CR_enter Tryd.func123 rfl Tryd.ntmps123 rfl ?_
  refine W_seq ?_
  refine W_region ?_
  refine RP_e rfl (ef_box st rfl rfl) ?_
  rintro _ w1 ⟨g4, rfl, hg4, hg4', st2, hx3⟩
  replace st2 : St [] w w1 [(g4, 59, [.int .i64 c, .int .i64 n])] := st2
  refine RP_e rfl (ef_alloc st2 zero_30 rfl) ?_
  rintro _ w5 ⟨g8, rfl, hg8, hg8', st6, hx7⟩
  replace st6 : St [] w w5 [(g8, 30, [.int .u64 0, .int .u64 0]), (g4, 59, [.int .i64 c, .int .i64 n])] := st6
  refine RP_pick [0, 3, 4] (by kernel_rfl : pick _ _ = some [(0, .string key), (3, .pointer (some ⟨g4, 0, none⟩)), (4, .pointer (some ⟨g8, 0, none⟩))]) ?_
  refine RP_nil ?_
  refine n_then ?_
  refine W_seq ?_
  refine W_region ?_
  refine RP_seg 7 [.p (.pointer (some ⟨0, 0, none⟩)), .p (.pointer (some ⟨0, 0, none⟩)), .l 28 (.pointer (some ⟨0, 0, none⟩)) (.int .u64 2611923443488327891), .p (.pointer (some ⟨0, 3, none⟩)), .p (.pointer (some ⟨0, 3, none⟩)), .l 28 (.pointer (some ⟨0, 3, none⟩)) (.int .u64 1376283091369227076), .p (.agg #[.int .u64 2611923443488327891, .int .u64 1376283091369227076])] [0, 3, 4, 15] (by kernel_rfl) (fun _ => by kernel_rfl) (by kernel_rfl : pick _ _ = some [(0, .string key), (3, .pointer (some ⟨g4, 0, none⟩)), (4, .pointer (some ⟨g8, 0, none⟩)), (15, .agg #[.int .u64 2611923443488327891, .int .u64 1376283091369227076])]) ⟨Lanes.load1 (hl.ext st6.ext List.not_mem_nil) nagg_28 rfl, Lanes.load1 (hl.ext st6.ext List.not_mem_nil) nagg_28 rfl, trivial⟩ ?_
  refine RP_e rfl (ef_alloc st6 zero_30 rfl) ?_
  rintro _ w9 ⟨g5, rfl, hg5, hg5', st10, hx11⟩
  replace st10 : St [] w w9 [(g5, 30, [.int .u64 0, .int .u64 0]), (g8, 30, [.int .u64 0, .int .u64 0]), (g4, 59, [.int .i64 c, .int .i64 n])] := st10
  refine RP_e rfl (ef_store st10 rfl rfl rfl size_30 0 rfl rfl rfl rfl (.inr hg5)) ?_
  rintro _ w12 ⟨rfl, st13, hx14⟩
  replace st13 : St [] w w12 [(g5, 30, [.int .u64 2611923443488327891, .int .u64 1376283091369227076]), (g8, 30, [.int .u64 0, .int .u64 0]), (g4, 59, [.int .i64 c, .int .i64 n])] := st13
  refine RP_pick [0, 3, 4, 5] (by kernel_rfl : pick _ _ = some [(0, .string key), (3, .pointer (some ⟨g4, 0, none⟩)), (4, .pointer (some ⟨g8, 0, none⟩)), (5, .pointer (some ⟨g5, 0, none⟩))]) ?_
  refine RP_nil ?_
  refine n_then ?_
  refine W_seq ?_
  refine W_region ?_
  refine RP_seg 3 [.p (.string key), .p (.int .i64 (((key).size : Nat) : Int)), .p (.int .u64 (IntKind.u64.wrap (((key).size : Nat) : Int)))] [0, 3, 4, 5, 18] (by kernel_rfl) (fun _ => by kernel_rfl) (by kernel_rfl : pick _ _ = some [(0, .string key), (3, .pointer (some ⟨g4, 0, none⟩)), (4, .pointer (some ⟨g8, 0, none⟩)), (5, .pointer (some ⟨g5, 0, none⟩)), (18, .int .u64 (IntKind.u64.wrap (((key).size : Nat) : Int)))]) (trivial) ?_
  have hst := stir_cr (2611923443488327891) (1376283091369227076) (IntKind.u64.wrap (((key).size : Nat) : Int)) (hl.ext st13.ext List.not_mem_nil) (st13.get 0 rfl) (by omega)
  rw [← ha1, ← hb1] at hst
  refine RP_e rfl (ef_call (k := 143) (args := [.pointer (some ⟨g5, 0, none⟩), .int .u64 (IntKind.u64.wrap (((key).size : Nat) : Int))]) (hst) body_143 (by kernel_rfl)) ?_
  rintro _ w15 ⟨_, rfl, rfl, hbs, hx17⟩
  have st16 := st13.turned 0 rfl (.inr hg5) hbs hx17
  have st18 : St [] w w15 [(g5, 30, [.int .u64 a1, .int .u64 b1]), (g8, 30, [.int .u64 0, .int .u64 0]), (g4, 59, [.int .i64 c, .int .i64 n])] := st16
  refine RP_pick [0, 3, 4, 5] (by kernel_rfl : pick _ _ = some [(0, .string key), (3, .pointer (some ⟨g4, 0, none⟩)), (4, .pointer (some ⟨g8, 0, none⟩)), (5, .pointer (some ⟨g5, 0, none⟩))]) ?_
  refine RP_nil ?_
  refine n_then ?_
  refine W_seq ?_
  refine W_block ?_
  refine W_loop (fun k_ m_ w_ => ∃ (kb : ByteArray) (a b : Int), kb.size = k_ ∧ m_ = [(0, .string kb), (3, .pointer (some ⟨g4, 0, none⟩)), (4, .pointer (some ⟨g8, 0, none⟩)), (5, .pointer (some ⟨g5, 0, none⟩))] ∧ St [] w w_ [(g5, 30, [.int .u64 a, .int .u64 b]), (g8, 30, [.int .u64 0, .int .u64 0]), (g4, 59, [.int .i64 c, .int .i64 n])] ∧ kb.size < 1000000000 ∧ (keyWords kb.toList).foldl (stirL 11400714819323198485 29) a = (keyWords key.toList).foldl (stirL 11400714819323198485 29) a1 ∧ (keyWords kb.toList).foldl (stirL 14029467366897019727 32) b = (keyWords key.toList).foldl (stirL 14029467366897019727 32) b1) ⟨key, a1, b1, rfl, rfl, st18, hk, rfl, rfl⟩ ?_
  rintro _ _ w20 ⟨kb, a, b, rfl, rfl, st19, hks, hA, hB⟩
  refine W_seq ?_
  refine W_seq ?_
  refine W_region ?_
  refine RP_seg 3 [.p (.string kb), .p (.int .i64 (((kb).size : Nat) : Int)), .p (.bool (decide ((((kb).size : Nat) : Int) > 0)))] [0, 3, 4, 5, 22] (by kernel_rfl) (fun _ => by kernel_rfl) (by kernel_rfl : pick _ _ = some [(0, .string kb), (3, .pointer (some ⟨g4, 0, none⟩)), (4, .pointer (some ⟨g8, 0, none⟩)), (5, .pointer (some ⟨g5, 0, none⟩)), (22, .bool (decide ((((kb).size : Nat) : Int) > 0)))]) (trivial) ?_
  refine RP_pick [0, 3, 4, 5, 22] (by kernel_rfl : pick _ _ = some [(0, .string kb), (3, .pointer (some ⟨g4, 0, none⟩)), (4, .pointer (some ⟨g8, 0, none⟩)), (5, .pointer (some ⟨g5, 0, none⟩)), (22, .bool (decide ((((kb).size : Nat) : Int) > 0)))]) ?_
  refine RP_nil ?_
  refine n_then ?_
  refine W_cond rfl (fun c22_21 => ?_) (fun c22_21 => ?_)
  ·
    have c22_21p := of_decide_eq_true c22_21
    refine W_skip ?_
    refine n_then ?_
    refine W_block ?_
    refine W_seq ?_
    refine W_region ?_
    refine RP_seg 3 [.p (.string kb), .p (.int .i64 (((kb).size : Nat) : Int)), .p (.int .i64 (if (((kb).size : Nat) : Int) < 8 then (((kb).size : Nat) : Int) else 8))] [0, 3, 4, 5, 25] (by kernel_rfl) (fun _ => by kernel_rfl) (by kernel_rfl : pick _ _ = some [(0, .string kb), (3, .pointer (some ⟨g4, 0, none⟩)), (4, .pointer (some ⟨g8, 0, none⟩)), (5, .pointer (some ⟨g5, 0, none⟩)), (25, .int .i64 (if (((kb).size : Nat) : Int) < 8 then (((kb).size : Nat) : Int) else 8))]) (trivial) ?_
    refine RP_at (m' := [(0, .string kb), (3, .pointer (some ⟨g4, 0, none⟩)), (4, .pointer (some ⟨g8, 0, none⟩)), (5, .pointer (some ⟨g5, 0, none⟩)), (25, .int .i64 (((min 8 (kb).size) : Nat) : Int))]) (by rw [min_w]) ?_
    refine RP_seg 1 [.p (.int .i64 (((min 8 (kb).size) : Nat) : Int))] [0, 3, 4, 5, 6] (by kernel_rfl) (fun _ => by kernel_rfl) (by kernel_rfl : pick _ _ = some [(0, .string kb), (3, .pointer (some ⟨g4, 0, none⟩)), (4, .pointer (some ⟨g8, 0, none⟩)), (5, .pointer (some ⟨g5, 0, none⟩)), (6, .int .i64 (((min 8 (kb).size) : Nat) : Int))]) (trivial) ?_
    refine RP_pick [0, 3, 4, 5, 6] (by kernel_rfl : pick _ _ = some [(0, .string kb), (3, .pointer (some ⟨g4, 0, none⟩)), (4, .pointer (some ⟨g8, 0, none⟩)), (5, .pointer (some ⟨g5, 0, none⟩)), (6, .int .i64 (((min 8 (kb).size) : Nat) : Int))]) ?_
    refine RP_nil ?_
    refine n_then ?_
    refine W_seq ?_
    refine W_region ?_
    refine RP_seg 1 [.p (.int .u64 0)] [0, 3, 4, 5, 6, 7] (by kernel_rfl) (fun _ => by kernel_rfl) (by kernel_rfl : pick _ _ = some [(0, .string kb), (3, .pointer (some ⟨g4, 0, none⟩)), (4, .pointer (some ⟨g8, 0, none⟩)), (5, .pointer (some ⟨g5, 0, none⟩)), (6, .int .i64 (((min 8 (kb).size) : Nat) : Int)), (7, .int .u64 0)]) (trivial) ?_
    refine RP_pick [0, 3, 4, 5, 6, 7] (by kernel_rfl : pick _ _ = some [(0, .string kb), (3, .pointer (some ⟨g4, 0, none⟩)), (4, .pointer (some ⟨g8, 0, none⟩)), (5, .pointer (some ⟨g5, 0, none⟩)), (6, .int .i64 (((min 8 (kb).size) : Nat) : Int)), (7, .int .u64 0)]) ?_
    refine RP_nil ?_
    refine n_then ?_
    refine W_seq ?_
    refine W_seq ?_
    refine W_region ?_
    refine RP_seg 2 [.p (.int .i64 (((min 8 (kb).size) : Nat) : Int)), .p (.int .i64 (IntKind.i64.wrap ((((min 8 (kb).size) : Nat) : Int) - 1)))] [0, 3, 4, 5, 6, 7, 27] (by kernel_rfl) (fun _ => by kernel_rfl) (by kernel_rfl : pick _ _ = some [(0, .string kb), (3, .pointer (some ⟨g4, 0, none⟩)), (4, .pointer (some ⟨g8, 0, none⟩)), (5, .pointer (some ⟨g5, 0, none⟩)), (6, .int .i64 (((min 8 (kb).size) : Nat) : Int)), (7, .int .u64 0), (27, .int .i64 (IntKind.i64.wrap ((((min 8 (kb).size) : Nat) : Int) - 1)))]) (trivial) ?_
    refine RP_at (m' := [(0, .string kb), (3, .pointer (some ⟨g4, 0, none⟩)), (4, .pointer (some ⟨g8, 0, none⟩)), (5, .pointer (some ⟨g5, 0, none⟩)), (6, .int .i64 (((min 8 (kb).size) : Nat) : Int)), (7, .int .u64 0), (27, .int .i64 (((min 8 (kb).size : Nat) : Int) - 1))]) (by rw [dec_w (by omega)]) ?_
    refine RP_seg 1 [.p (.int .i64 (((min 8 (kb).size : Nat) : Int) - 1))] [0, 3, 4, 5, 6, 7, 8] (by kernel_rfl) (fun _ => by kernel_rfl) (by kernel_rfl : pick _ _ = some [(0, .string kb), (3, .pointer (some ⟨g4, 0, none⟩)), (4, .pointer (some ⟨g8, 0, none⟩)), (5, .pointer (some ⟨g5, 0, none⟩)), (6, .int .i64 (((min 8 (kb).size) : Nat) : Int)), (7, .int .u64 0), (8, .int .i64 (((min 8 (kb).size : Nat) : Int) - 1))]) (trivial) ?_
    refine RP_pick [0, 3, 4, 5, 6, 7, 8] (by kernel_rfl : pick _ _ = some [(0, .string kb), (3, .pointer (some ⟨g4, 0, none⟩)), (4, .pointer (some ⟨g8, 0, none⟩)), (5, .pointer (some ⟨g5, 0, none⟩)), (6, .int .i64 (((min 8 (kb).size) : Nat) : Int)), (7, .int .u64 0), (8, .int .i64 (((min 8 (kb).size : Nat) : Int) - 1))]) ?_
    refine RP_nil ?_
    refine n_then ?_
    refine W_block ?_
    refine W_loop (fun k_ m_ w_ => ∃ (q : Nat) (x : Int), q = k_ ∧ m_ = [(0, .string kb), (3, .pointer (some ⟨g4, 0, none⟩)), (4, .pointer (some ⟨g8, 0, none⟩)), (5, .pointer (some ⟨g5, 0, none⟩)), (6, .int .i64 (((min 8 (kb).size) : Nat) : Int)), (7, .int .u64 x), (8, .int .i64 (((q : Nat) : Int) - 1))] ∧ w20 = w_ ∧ q ≤ min 8 (kb).size ∧ x = keyWords.word ((kb.toList.take (min 8 (kb).size)).drop q)) ⟨min 8 (kb).size, 0, rfl, rfl, rfl, Nat.le_refl _, by rw [List.drop_of_length_le (by simp only [List.length_take, size_toList]; omega)]; rfl⟩ ?_
    rintro _ _ _ ⟨q, x, rfl, rfl, rfl, hq, hx⟩
    refine W_seq ?_
    refine W_seq ?_
    refine W_region ?_
    refine RP_seg 2 [.p (.int .i64 (((q : Nat) : Int) - 1)), .p (.bool (decide ((((q : Nat) : Int) - 1) ≥ 0)))] [0, 3, 4, 5, 6, 7, 8, 29] (by kernel_rfl) (fun _ => by kernel_rfl) (by kernel_rfl : pick _ _ = some [(0, .string kb), (3, .pointer (some ⟨g4, 0, none⟩)), (4, .pointer (some ⟨g8, 0, none⟩)), (5, .pointer (some ⟨g5, 0, none⟩)), (6, .int .i64 (((min 8 (kb).size) : Nat) : Int)), (7, .int .u64 x), (8, .int .i64 (((q : Nat) : Int) - 1)), (29, .bool (decide ((((q : Nat) : Int) - 1) ≥ 0)))]) (trivial) ?_
    refine RP_pick [0, 3, 4, 5, 6, 7, 8, 29] (by kernel_rfl : pick _ _ = some [(0, .string kb), (3, .pointer (some ⟨g4, 0, none⟩)), (4, .pointer (some ⟨g8, 0, none⟩)), (5, .pointer (some ⟨g5, 0, none⟩)), (6, .int .i64 (((min 8 (kb).size) : Nat) : Int)), (7, .int .u64 x), (8, .int .i64 (((q : Nat) : Int) - 1)), (29, .bool (decide ((((q : Nat) : Int) - 1) ≥ 0)))]) ?_
    refine RP_nil ?_
    refine n_then ?_
    refine W_cond rfl (fun c29_24 => ?_) (fun c29_24 => ?_)
    ·
      have c29_24p := of_decide_eq_true c29_24
      refine W_skip ?_
      refine n_then ?_
      refine W_seq ?_
      refine W_block ?_
      refine W_region ?_
      refine RP_seg 4 [.p (.int .u64 x), .p (.int .u64 (IntKind.u64.wrap (x * 2 ^ 8))), .p (.string kb), .p (.int .i64 (((q : Nat) : Int) - 1))] [0, 3, 4, 5, 6, 8, 33, 34, 35] (by kernel_rfl) (fun _ => by kernel_rfl) (by kernel_rfl : pick _ _ = some [(0, .string kb), (3, .pointer (some ⟨g4, 0, none⟩)), (4, .pointer (some ⟨g8, 0, none⟩)), (5, .pointer (some ⟨g5, 0, none⟩)), (6, .int .i64 (((min 8 (kb).size) : Nat) : Int)), (8, .int .i64 (((q : Nat) : Int) - 1)), (33, .int .u64 (IntKind.u64.wrap (x * 2 ^ 8))), (34, .string kb), (35, .int .i64 (((q : Nat) : Int) - 1))]) (trivial) ?_
      have hq0 : 0 < q := by omega
      refine RP_at (m' := [(0, .string kb), (3, .pointer (some ⟨g4, 0, none⟩)), (4, .pointer (some ⟨g8, 0, none⟩)), (5, .pointer (some ⟨g5, 0, none⟩)), (6, .int .i64 (((min 8 (kb).size) : Nat) : Int)), (8, .int .i64 (((q : Nat) : Int) - 1)), (33, .int .u64 (IntKind.u64.wrap (x * 2 ^ 8))), (34, .string kb), (35, .int .i64 (((q - 1) : Nat) : Int))]) (by rw [show ((q : Nat) : Int) - 1 = ((q - 1 : Nat) : Int) by omega]) ?_
      obtain ⟨b0, hb0⟩ : ∃ b, (kb).toList[q - 1]? = some b := ⟨(kb).toList[q - 1]'(by rw [size_toList]; omega), by simp⟩
      refine RP_q rfl (v := .int .u8 ((b0.toNat : Nat) : Int)) (ev_sidx (by kernel_rfl) rfl rfl hb0) ?_
      refine RP_seg 2 [.p (.int .u64 (IntKind.u64.wrap ((b0.toNat : Nat) : Int))), .p (.int .u64 (bits .or .u64 (IntKind.u64.wrap (x * 2 ^ 8)) (IntKind.u64.wrap ((b0.toNat : Nat) : Int))))] [0, 3, 4, 5, 6, 8, 38] (by kernel_rfl) (fun _ => by kernel_rfl) (by kernel_rfl : pick _ _ = some [(0, .string kb), (3, .pointer (some ⟨g4, 0, none⟩)), (4, .pointer (some ⟨g8, 0, none⟩)), (5, .pointer (some ⟨g5, 0, none⟩)), (6, .int .i64 (((min 8 (kb).size) : Nat) : Int)), (8, .int .i64 (((q : Nat) : Int) - 1)), (38, .int .u64 (bits .or .u64 (IntKind.u64.wrap (x * 2 ^ 8)) (IntKind.u64.wrap ((b0.toNat : Nat) : Int))))]) (trivial) ?_
      refine RP_at (m' := [(0, .string kb), (3, .pointer (some ⟨g4, 0, none⟩)), (4, .pointer (some ⟨g8, 0, none⟩)), (5, .pointer (some ⟨g5, 0, none⟩)), (6, .int .i64 (((min 8 (kb).size) : Nat) : Int)), (8, .int .i64 (((q : Nat) : Int) - 1)), (38, .int .u64 (((b0.toNat : Nat) : Int) + 256 * x))]) (by rw [word_step (x := x) (b := b0) (by rw [hx]; exact word_nonneg _) (by rw [hx]; exact word_take_lt _ (by omega) (by omega))]) ?_
      refine RP_seg 1 [.p (.int .u64 (((b0.toNat : Nat) : Int) + 256 * x))] [0, 3, 4, 5, 6, 7, 8] (by kernel_rfl) (fun _ => by kernel_rfl) (by kernel_rfl : pick _ _ = some [(0, .string kb), (3, .pointer (some ⟨g4, 0, none⟩)), (4, .pointer (some ⟨g8, 0, none⟩)), (5, .pointer (some ⟨g5, 0, none⟩)), (6, .int .i64 (((min 8 (kb).size) : Nat) : Int)), (7, .int .u64 (((b0.toNat : Nat) : Int) + 256 * x)), (8, .int .i64 (((q : Nat) : Int) - 1))]) (trivial) ?_
      refine RP_pick [0, 3, 4, 5, 6, 7, 8] (by kernel_rfl : pick _ _ = some [(0, .string kb), (3, .pointer (some ⟨g4, 0, none⟩)), (4, .pointer (some ⟨g8, 0, none⟩)), (5, .pointer (some ⟨g5, 0, none⟩)), (6, .int .i64 (((min 8 (kb).size) : Nat) : Int)), (7, .int .u64 (((b0.toNat : Nat) : Int) + 256 * x)), (8, .int .i64 (((q : Nat) : Int) - 1))]) ?_
      refine RP_nil ?_
      refine n_block ?_
      refine n_then ?_
      refine W_region ?_
      refine RP_seg 2 [.p (.int .i64 (((q : Nat) : Int) - 1)), .p (.int .i64 (IntKind.i64.wrap ((((q : Nat) : Int) - 1) - 1)))] [0, 3, 4, 5, 6, 7, 31] (by kernel_rfl) (fun _ => by kernel_rfl) (by kernel_rfl : pick _ _ = some [(0, .string kb), (3, .pointer (some ⟨g4, 0, none⟩)), (4, .pointer (some ⟨g8, 0, none⟩)), (5, .pointer (some ⟨g5, 0, none⟩)), (6, .int .i64 (((min 8 (kb).size) : Nat) : Int)), (7, .int .u64 (((b0.toNat : Nat) : Int) + 256 * x)), (31, .int .i64 (IntKind.i64.wrap ((((q : Nat) : Int) - 1) - 1)))]) (trivial) ?_
      refine RP_at (m' := [(0, .string kb), (3, .pointer (some ⟨g4, 0, none⟩)), (4, .pointer (some ⟨g8, 0, none⟩)), (5, .pointer (some ⟨g5, 0, none⟩)), (6, .int .i64 (((min 8 (kb).size) : Nat) : Int)), (7, .int .u64 (((b0.toNat : Nat) : Int) + 256 * x)), (31, .int .i64 (((q - 1 : Nat) : Int) - 1))]) (by rw [dec_w2 (n := q) (by omega) (by omega)]) ?_
      refine RP_seg 1 [.p (.int .i64 (((q - 1 : Nat) : Int) - 1))] [0, 3, 4, 5, 6, 7, 8] (by kernel_rfl) (fun _ => by kernel_rfl) (by kernel_rfl : pick _ _ = some [(0, .string kb), (3, .pointer (some ⟨g4, 0, none⟩)), (4, .pointer (some ⟨g8, 0, none⟩)), (5, .pointer (some ⟨g5, 0, none⟩)), (6, .int .i64 (((min 8 (kb).size) : Nat) : Int)), (7, .int .u64 (((b0.toNat : Nat) : Int) + 256 * x)), (8, .int .i64 (((q - 1 : Nat) : Int) - 1))]) (trivial) ?_
      refine RP_pick [0, 3, 4, 5, 6, 7, 8] (by kernel_rfl : pick _ _ = some [(0, .string kb), (3, .pointer (some ⟨g4, 0, none⟩)), (4, .pointer (some ⟨g8, 0, none⟩)), (5, .pointer (some ⟨g5, 0, none⟩)), (6, .int .i64 (((min 8 (kb).size) : Nat) : Int)), (7, .int .u64 (((b0.toNat : Nat) : Int) + 256 * x)), (8, .int .i64 (((q - 1 : Nat) : Int) - 1))]) ?_
      refine RP_nil ?_
      -- back 0: [(0, .string kb), (3, .pointer (some ⟨g4, 0, none⟩)), (4, .pointer (some ⟨g8, 0, none⟩)), (5, .pointer (some ⟨g5, 0, none⟩)), (6, .int .i64 (((min 8 (kb).size) : Nat) : Int)), (7, .int .u64 (((b0.toNat : Nat) : Int) + 256 * x)), (8, .int .i64 (((q - 1 : Nat) : Int) - 1))]
      exact ⟨_, by omega, q - 1, ((b0.toNat : Nat) : Int) + 256 * x, rfl, rfl, rfl, by omega, by rw [word_drop (b := b0) (by rw [List.getElem?_take, if_pos (by omega)]; exact hb0), show q - 1 + 1 = q from by omega, ← hx]⟩
    ·
      have c29_24p := of_decide_eq_false c29_24
      refine W_exit ?_
      refine e_then <| e_loop <| e_here ?_
      refine n_then ?_
      refine W_seq ?_
      refine W_region ?_
      refine RP_seg 1 [.p (.int .u64 x)] [0, 3, 4, 5, 6, 39] (by kernel_rfl) (fun _ => by kernel_rfl) (by kernel_rfl : pick _ _ = some [(0, .string kb), (3, .pointer (some ⟨g4, 0, none⟩)), (4, .pointer (some ⟨g8, 0, none⟩)), (5, .pointer (some ⟨g5, 0, none⟩)), (6, .int .i64 (((min 8 (kb).size) : Nat) : Int)), (39, .int .u64 x)]) (trivial) ?_
      refine RP_e rfl (ef_call (k := 143) (args := [.pointer (some ⟨g5, 0, none⟩), .int .u64 x]) (stir_cr (a) (b) (x) (hl.ext st19.ext List.not_mem_nil) (st19.get 0 rfl) (by omega)) body_143 (by kernel_rfl)) ?_
      rintro _ w25 ⟨_, rfl, rfl, hbs, hx27⟩
      have st26 := st19.turned 0 rfl (.inr hg5) hbs hx27
      have st28 : St [] w w25 [(g5, 30, [.int .u64 (stirL 11400714819323198485 29 (a) (x)), .int .u64 (stirL 14029467366897019727 32 (b) (x))]), (g8, 30, [.int .u64 0, .int .u64 0]), (g4, 59, [.int .i64 c, .int .i64 n])] := st26
      refine RP_pick [0, 3, 4, 5, 6] (by kernel_rfl : pick _ _ = some [(0, .string kb), (3, .pointer (some ⟨g4, 0, none⟩)), (4, .pointer (some ⟨g8, 0, none⟩)), (5, .pointer (some ⟨g5, 0, none⟩)), (6, .int .i64 (((min 8 (kb).size) : Nat) : Int))]) ?_
      refine RP_nil ?_
      refine n_then ?_
      refine W_region ?_
      refine RP_seg 2 [.p (.string kb), .p (.int .i64 (((min 8 (kb).size) : Nat) : Int))] [3, 4, 5, 41, 42] (by kernel_rfl) (fun _ => by kernel_rfl) (by kernel_rfl : pick _ _ = some [(3, .pointer (some ⟨g4, 0, none⟩)), (4, .pointer (some ⟨g8, 0, none⟩)), (5, .pointer (some ⟨g5, 0, none⟩)), (41, .string kb), (42, .int .i64 (((min 8 (kb).size) : Nat) : Int))]) (trivial) ?_
      refine RP_q rfl (v := .string ((kb).extract (min 8 (kb).size) (kb).size)) (ev_stail (by kernel_rfl) rfl rfl (by omega)) ?_
      refine RP_seg 1 [.p (.string ((kb).extract (min 8 (kb).size) (kb).size))] [0, 3, 4, 5] (by kernel_rfl) (fun _ => by kernel_rfl) (by kernel_rfl : pick _ _ = some [(0, .string ((kb).extract (min 8 (kb).size) (kb).size)), (3, .pointer (some ⟨g4, 0, none⟩)), (4, .pointer (some ⟨g8, 0, none⟩)), (5, .pointer (some ⟨g5, 0, none⟩))]) (trivial) ?_
      refine RP_pick [0, 3, 4, 5] (by kernel_rfl : pick _ _ = some [(0, .string ((kb).extract (min 8 (kb).size) (kb).size)), (3, .pointer (some ⟨g4, 0, none⟩)), (4, .pointer (some ⟨g8, 0, none⟩)), (5, .pointer (some ⟨g5, 0, none⟩))]) ?_
      refine RP_nil ?_
      refine n_block ?_
      have hq1 : q = 0 := by omega
      subst hq1
      rw [List.drop_zero] at hx
      have hA2 : (keyWords ((kb).extract (min 8 (kb).size) (kb).size).toList).foldl (stirL 11400714819323198485 29) (stirL 11400714819323198485 29 (a) (x)) = (keyWords key.toList).foldl (stirL 11400714819323198485 29) a1 := by rw [← hA, keyWords_cons (l := kb.toList) (by rw [size_toList]; omega), toList_tail]; simp only [List.foldl_cons]; rw [hx, ← size_toList, take_min, drop_min]
      have hB2 : (keyWords ((kb).extract (min 8 (kb).size) (kb).size).toList).foldl (stirL 14029467366897019727 32) (stirL 14029467366897019727 32 (b) (x)) = (keyWords key.toList).foldl (stirL 14029467366897019727 32) b1 := by rw [← hB, keyWords_cons (l := kb.toList) (by rw [size_toList]; omega), toList_tail]; simp only [List.foldl_cons]; rw [hx, ← size_toList, take_min, drop_min]
      -- back 0: [(0, .string ((kb).extract (min 8 (kb).size) (kb).size)), (3, .pointer (some ⟨g4, 0, none⟩)), (4, .pointer (some ⟨g8, 0, none⟩)), (5, .pointer (some ⟨g5, 0, none⟩))]
      exact ⟨_, by simp only [ByteArray.size_extract]; omega, ((kb).extract (min 8 (kb).size) (kb).size), stirL 11400714819323198485 29 (a) (x), stirL 14029467366897019727 32 (b) (x), rfl, rfl, st28, by simp only [ByteArray.size_extract]; omega, hA2, hB2⟩
  ·
    have c22_21p := of_decide_eq_false c22_21
    refine W_exit ?_
    refine e_then <| e_loop <| e_here ?_
    refine n_then ?_
    refine W_seq ?_
    refine W_region ?_
    refine RP_seg 3 [.p (.pointer (some ⟨g4, 0, none⟩)), .l 3 (.pointer (some ⟨g4, 0, none⟩)) (.int .i64 c), .p (.int .u64 (IntKind.u64.wrap c))] [3, 4, 5, 46] (by kernel_rfl) (fun _ => by kernel_rfl) (by kernel_rfl : pick _ _ = some [(3, .pointer (some ⟨g4, 0, none⟩)), (4, .pointer (some ⟨g8, 0, none⟩)), (5, .pointer (some ⟨g5, 0, none⟩)), (46, .int .u64 (IntKind.u64.wrap c))]) ⟨ld1 st19 nagg_3 2 rfl rfl, trivial⟩ ?_
    refine RP_e rfl (ef_call (k := 143) (args := [.pointer (some ⟨g5, 0, none⟩), .int .u64 (IntKind.u64.wrap c)]) (stir_cr (a) (b) (IntKind.u64.wrap c) (hl.ext st19.ext List.not_mem_nil) (st19.get 0 rfl) (by omega)) body_143 (by kernel_rfl)) ?_
    rintro _ w29 ⟨_, rfl, rfl, hbs, hx31⟩
    have st30 := st19.turned 0 rfl (.inr hg5) hbs hx31
    have st32 : St [] w w29 [(g5, 30, [.int .u64 (stirL 11400714819323198485 29 (a) (IntKind.u64.wrap c)), .int .u64 (stirL 14029467366897019727 32 (b) (IntKind.u64.wrap c))]), (g8, 30, [.int .u64 0, .int .u64 0]), (g4, 59, [.int .i64 c, .int .i64 n])] := st30
    refine RP_pick [3, 4, 5] (by kernel_rfl : pick _ _ = some [(3, .pointer (some ⟨g4, 0, none⟩)), (4, .pointer (some ⟨g8, 0, none⟩)), (5, .pointer (some ⟨g5, 0, none⟩))]) ?_
    refine RP_nil ?_
    refine n_then ?_
    refine W_seq ?_
    refine W_region ?_
    refine RP_seg 3 [.p (.pointer (some ⟨g4, 1, none⟩)), .l 3 (.pointer (some ⟨g4, 1, none⟩)) (.int .i64 n), .p (.int .u64 (IntKind.u64.wrap n))] [4, 5, 50] (by kernel_rfl) (fun _ => by kernel_rfl) (by kernel_rfl : pick _ _ = some [(4, .pointer (some ⟨g8, 0, none⟩)), (5, .pointer (some ⟨g5, 0, none⟩)), (50, .int .u64 (IntKind.u64.wrap n))]) ⟨ld1 st32 nagg_3 2 rfl rfl, trivial⟩ ?_
    refine RP_e rfl (ef_call (k := 143) (args := [.pointer (some ⟨g5, 0, none⟩), .int .u64 (IntKind.u64.wrap n)]) (stir_cr (stirL 11400714819323198485 29 (a) (IntKind.u64.wrap c)) (stirL 14029467366897019727 32 (b) (IntKind.u64.wrap c)) (IntKind.u64.wrap n) (hl.ext st32.ext List.not_mem_nil) (st32.get 0 rfl) (by omega)) body_143 (by kernel_rfl)) ?_
    rintro _ w33 ⟨_, rfl, rfl, hbs, hx35⟩
    have st34 := st32.turned 0 rfl (.inr hg5) hbs hx35
    have st36 : St [] w w33 [(g5, 30, [.int .u64 (stirL 11400714819323198485 29 (stirL 11400714819323198485 29 (a) (IntKind.u64.wrap c)) (IntKind.u64.wrap n)), .int .u64 (stirL 14029467366897019727 32 (stirL 14029467366897019727 32 (b) (IntKind.u64.wrap c)) (IntKind.u64.wrap n))]), (g8, 30, [.int .u64 0, .int .u64 0]), (g4, 59, [.int .i64 c, .int .i64 n])] := st34
    refine RP_pick [4, 5] (by kernel_rfl : pick _ _ = some [(4, .pointer (some ⟨g8, 0, none⟩)), (5, .pointer (some ⟨g5, 0, none⟩))]) ?_
    refine RP_nil ?_
    refine n_then ?_
    refine W_seq ?_
    refine W_region ?_
    refine RP_seg 1 [.l 30 (.pointer (some ⟨g5, 0, none⟩)) (.agg #[.int .u64 (stirL 11400714819323198485 29 (stirL 11400714819323198485 29 (a) (IntKind.u64.wrap c)) (IntKind.u64.wrap n)), .int .u64 (stirL 14029467366897019727 32 (stirL 14029467366897019727 32 (b) (IntKind.u64.wrap c)) (IntKind.u64.wrap n))])] [4, 52] (by kernel_rfl) (fun _ => by kernel_rfl) (by kernel_rfl : pick _ _ = some [(4, .pointer (some ⟨g8, 0, none⟩)), (52, .agg #[.int .u64 (stirL 11400714819323198485 29 (stirL 11400714819323198485 29 (a) (IntKind.u64.wrap c)) (IntKind.u64.wrap n)), .int .u64 (stirL 14029467366897019727 32 (stirL 14029467366897019727 32 (b) (IntKind.u64.wrap c)) (IntKind.u64.wrap n))])]) ⟨ldN st36 agg_30 0 rfl rfl rfl, trivial⟩ ?_
    refine RP_e rfl (ef_store st36 rfl rfl rfl size_30 1 rfl rfl rfl rfl (.inr hg8)) ?_
    rintro _ w37 ⟨rfl, st38, hx39⟩
    replace st38 : St [] w w37 [(g5, 30, [.int .u64 (stirL 11400714819323198485 29 (stirL 11400714819323198485 29 (a) (IntKind.u64.wrap c)) (IntKind.u64.wrap n)), .int .u64 (stirL 14029467366897019727 32 (stirL 14029467366897019727 32 (b) (IntKind.u64.wrap c)) (IntKind.u64.wrap n))]), (g8, 30, [.int .u64 (stirL 11400714819323198485 29 (stirL 11400714819323198485 29 (a) (IntKind.u64.wrap c)) (IntKind.u64.wrap n)), .int .u64 (stirL 14029467366897019727 32 (stirL 14029467366897019727 32 (b) (IntKind.u64.wrap c)) (IntKind.u64.wrap n))]), (g4, 59, [.int .i64 c, .int .i64 n])] := st38
    refine RP_pick [4] (by kernel_rfl : pick _ _ = some [(4, .pointer (some ⟨g8, 0, none⟩))]) ?_
    refine RP_nil ?_
    refine n_then ?_
    refine W_ret ?_
    have hz : kb.size = 0 := by omega
    have hzl : kb.toList = [] := List.eq_nil_of_length_eq_zero (by rw [size_toList]; exact hz)
    rw [hzl] at hA hB
    simp only [keyWords, List.foldl_nil] at hA hB
    refine ret_of (P := Tryd.prog) (fn := Tryd.f123) (m := [(4, .pointer (some ⟨g8, 0, none⟩))]) (w := w37) (res1 rfl (rv_cell rfl (by simpa [Instr.loadAt, Instr.sureAddr] using (ldN st38 agg_30 1 rfl rfl rfl)))) ?_
    -- return 0: .agg #[.int .u64 (stirL 11400714819323198485 29 (stirL 11400714819323198485 29 (a) (IntKind.u64.wrap c)) (IntKind.u64.wrap n)), .int .u64 (stirL 14029467366897019727 32 (stirL 14029467366897019727 32 (b) (IntKind.u64.wrap c)) (IntKind.u64.wrap n))]
    exact ⟨by rw [hA, hB, ha1, hb1]; simp only [laneA, laneB, mixWords, List.foldl_cons, List.cons_append, List.foldl_append, List.foldl_nil]; rfl, st38.ext⟩
end Go.Proofs.YtcopemgkjbaaeaaDoor
