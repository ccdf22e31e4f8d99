/-
  ref08.Load.
-/
import Derived.Test.YtcopemgkjbaaeaaDoorRf1
namespace Go.Proofs.YtcopemgkjbaaeaaDoor
set_option linter.all false
open Go.RowKit

/-- the document's store in memory -/
structure Doc (w : World) (gd : Nat) (node clock : Int) (b : Option Addr) (c : Nat) (L : List Ent) : Prop where
  blk : Blk w gd 167 #[.int .i64 node, .int .i64 clock, .slice b L.length c]
  own : w.ownsRow 0 61 5 (.slice b L.length c) L.length (entCells L)
theorem Doc.ins {w : World} {gd : Nat} {node clock : Int} {b : Option Addr} {c : Nat} {L : List Ent} (h : Doc w gd node clock b c L) : InS w b (entCells L) := InS.of_own h.own
theorem Doc.ext {w w' : World} {X : List Nat} {gd : Nat} {node clock : Int} {b : Option Addr} {c : Nat} {L : List Ent} (h : Doc w gd node clock b c L) (hx : Ext X w w') (h1 : gd ∉ X) (h2 : ∀ q ∈ ownB (.slice b L.length c), q ∉ X) : Doc w' gd node clock b c L :=
  ⟨h.blk.ext hx h1, ownsRow.ext h.own hx h2⟩

theorem refLoad_cr {w : World} {b : Option Addr} {c : Nat} {L : List Ent} (node clock : Int) (hin : InS w b (entCells L)) :
    CR Tryd.prog 41 [.int .i64 node, .int .i64 clock, .slice b L.length c] w fun v w' => ∃ u, v = .tuple #[u, .int .i64 (loadErr node clock L)] ∧ Ext [] w w' ∧ (loadErr node clock L ≠ 0 → u = .pointer none) ∧
      (loadErr node clock L = 0 → ∃ gd b' c', u = .pointer (some ⟨gd, 0, none⟩) ∧ Doc w' gd node clock b' c' L ∧ w.heap.size ≤ gd ∧ (∀ q ∈ ownB (.slice b' L.length c'), w.heap.size ≤ q)) := by
  have st := St.init w []
  unfold loadErr
  refine CR_enter Tryd.func41 rfl Tryd.ntmps41 rfl ?_
  refine W_seq ?_
  refine W_region ?_
  refine RP_seg 2 [.p (.pointer none), .p (.int .i64 0)] [0, 1, 2] (by kernel_rfl) (fun _ => by kernel_rfl) (by kernel_rfl : pick _ _ = some [(0, .int .i64 node), (1, .int .i64 clock), (2, .slice b L.length c)]) (trivial) ?_
  refine RP_pick [0, 1, 2] (by kernel_rfl : pick _ _ = some [(0, .int .i64 node), (1, .int .i64 clock), (2, .slice b L.length c)]) ?_
  refine RP_nil ?_
  refine n_then ?_
  refine W_seq ?_
  refine W_seq ?_
  refine W_region ?_
  refine RP_seg 3 [.p (.int .i64 node), .p (.bool (decide (node < 0))), .p (.bool (decide (node < 0)))] [0, 1, 2, 13] (by kernel_rfl) (fun _ => by kernel_rfl) (by kernel_rfl : pick _ _ = some [(0, .int .i64 node), (1, .int .i64 clock), (2, .slice b L.length c), (13, .bool (decide (node < 0)))]) (trivial) ?_
  rcases Bool.eq_false_or_eq_true (decide (node < 0)) with c13_1 | c13_1
  ·
    have c13_1p := of_decide_eq_true c13_1
    refine RP_at (m' := [(0, .int .i64 node), (1, .int .i64 clock), (2, .slice b L.length c), (13, .bool true)]) (by rw [c13_1]) ?_
    refine RP_seg 11 [.no, .no, .p (.bool true), .p (.bool true), .no, .no, .p (.bool true), .p (.bool true), .no, .no, .p (.bool true)] [0, 1, 2, 24] (by kernel_rfl) (fun _ => by kernel_rfl) (by kernel_rfl : pick _ _ = some [(0, .int .i64 node), (1, .int .i64 clock), (2, .slice b L.length c), (24, .bool true)]) (trivial) ?_
    refine RP_pick [0, 1, 2, 24] (by kernel_rfl : pick _ _ = some [(0, .int .i64 node), (1, .int .i64 clock), (2, .slice b L.length c), (24, .bool true)]) ?_
    refine RP_nil ?_
    refine n_then ?_
    refine W_true rfl ?_
    refine W_seq ?_
    refine W_region ?_
    refine RP_seg 2 [.p (.pointer none), .p (.int .i64 1)] [6, 7] (by kernel_rfl) (fun _ => by kernel_rfl) (by kernel_rfl : pick _ _ = some [(6, .pointer none), (7, .int .i64 1)]) (trivial) ?_
    refine RP_pick [6, 7] (by kernel_rfl : pick _ _ = some [(6, .pointer none), (7, .int .i64 1)]) ?_
    refine RP_nil ?_
    refine n_then ?_
    refine W_ret ?_
    refine r_then ?_
    refine ret_of (P := Tryd.prog) (fn := Tryd.f41) (m := [(6, .pointer none), (7, .int .i64 1)]) (w := w) (res2 rfl (rv_tmp rfl) (rv_tmp rfl)) ?_
    -- return 0: .pointer none, .int .i64 1
    exact ⟨_, by (try rw [c13_1]); rfl, st.ext, fun _ => rfl, fun h => absurd h (by (try rw [c13_1]); exact (by decide : (1 : Int) ≠ 0))⟩
  ·
    have c13_1p := of_decide_eq_false c13_1
    refine RP_at (m' := [(0, .int .i64 node), (1, .int .i64 clock), (2, .slice b L.length c), (13, .bool false)]) (by rw [c13_1]) ?_
    refine RP_seg 4 [.p (.int .i64 node), .p (.bool (decide (node ≥ 8))), .p (.bool (decide (node ≥ 8))), .p (.bool (decide (node ≥ 8)))] [0, 1, 2, 17] (by kernel_rfl) (fun _ => by kernel_rfl) (by kernel_rfl : pick _ _ = some [(0, .int .i64 node), (1, .int .i64 clock), (2, .slice b L.length c), (17, .bool (decide (node ≥ 8)))]) (trivial) ?_
    rcases Bool.eq_false_or_eq_true (decide (node ≥ 8)) with c17_2 | c17_2
    ·
      have c17_2p := of_decide_eq_true c17_2
      refine RP_at (m' := [(0, .int .i64 node), (1, .int .i64 clock), (2, .slice b L.length c), (17, .bool true)]) (by rw [c17_2]) ?_
      refine RP_seg 7 [.no, .no, .p (.bool true), .p (.bool true), .no, .no, .p (.bool true)] [0, 1, 2, 24] (by kernel_rfl) (fun _ => by kernel_rfl) (by kernel_rfl : pick _ _ = some [(0, .int .i64 node), (1, .int .i64 clock), (2, .slice b L.length c), (24, .bool true)]) (trivial) ?_
      refine RP_pick [0, 1, 2, 24] (by kernel_rfl : pick _ _ = some [(0, .int .i64 node), (1, .int .i64 clock), (2, .slice b L.length c), (24, .bool true)]) ?_
      refine RP_nil ?_
      refine n_then ?_
      refine W_true rfl ?_
      refine W_seq ?_
      refine W_region ?_
      refine RP_seg 2 [.p (.pointer none), .p (.int .i64 1)] [6, 7] (by kernel_rfl) (fun _ => by kernel_rfl) (by kernel_rfl : pick _ _ = some [(6, .pointer none), (7, .int .i64 1)]) (trivial) ?_
      refine RP_pick [6, 7] (by kernel_rfl : pick _ _ = some [(6, .pointer none), (7, .int .i64 1)]) ?_
      refine RP_nil ?_
      refine n_then ?_
      refine W_ret ?_
      refine r_then ?_
      refine ret_of (P := Tryd.prog) (fn := Tryd.f41) (m := [(6, .pointer none), (7, .int .i64 1)]) (w := w) (res2 rfl (rv_tmp rfl) (rv_tmp rfl)) ?_
      -- return 1: .pointer none, .int .i64 1
      exact ⟨_, by (try rw [c13_1]); (try rw [c17_2]); rfl, st.ext, fun _ => rfl, fun h => absurd h (by (try rw [c13_1]); (try rw [c17_2]); exact (by decide : (1 : Int) ≠ 0))⟩
    ·
      have c17_2p := of_decide_eq_false c17_2
      refine RP_at (m' := [(0, .int .i64 node), (1, .int .i64 clock), (2, .slice b L.length c), (17, .bool false)]) (by rw [c17_2]) ?_
      refine RP_seg 4 [.p (.int .i64 clock), .p (.bool (decide (clock < 0))), .p (.bool (decide (clock < 0))), .p (.bool (decide (clock < 0)))] [0, 1, 2, 21] (by kernel_rfl) (fun _ => by kernel_rfl) (by kernel_rfl : pick _ _ = some [(0, .int .i64 node), (1, .int .i64 clock), (2, .slice b L.length c), (21, .bool (decide (clock < 0)))]) (trivial) ?_
      rcases Bool.eq_false_or_eq_true (decide (clock < 0)) with c21_3 | c21_3
      ·
        have c21_3p := of_decide_eq_true c21_3
        refine RP_at (m' := [(0, .int .i64 node), (1, .int .i64 clock), (2, .slice b L.length c), (21, .bool true)]) (by rw [c21_3]) ?_
        refine RP_seg 3 [.no, .no, .p (.bool true)] [0, 1, 2, 24] (by kernel_rfl) (fun _ => by kernel_rfl) (by kernel_rfl : pick _ _ = some [(0, .int .i64 node), (1, .int .i64 clock), (2, .slice b L.length c), (24, .bool true)]) (trivial) ?_
        refine RP_pick [0, 1, 2, 24] (by kernel_rfl : pick _ _ = some [(0, .int .i64 node), (1, .int .i64 clock), (2, .slice b L.length c), (24, .bool true)]) ?_
        refine RP_nil ?_
        refine n_then ?_
        refine W_true rfl ?_
        refine W_seq ?_
        refine W_region ?_
        refine RP_seg 2 [.p (.pointer none), .p (.int .i64 1)] [6, 7] (by kernel_rfl) (fun _ => by kernel_rfl) (by kernel_rfl : pick _ _ = some [(6, .pointer none), (7, .int .i64 1)]) (trivial) ?_
        refine RP_pick [6, 7] (by kernel_rfl : pick _ _ = some [(6, .pointer none), (7, .int .i64 1)]) ?_
        refine RP_nil ?_
        refine n_then ?_
        refine W_ret ?_
        refine r_then ?_
        refine ret_of (P := Tryd.prog) (fn := Tryd.f41) (m := [(6, .pointer none), (7, .int .i64 1)]) (w := w) (res2 rfl (rv_tmp rfl) (rv_tmp rfl)) ?_
        -- return 2: .pointer none, .int .i64 1
        exact ⟨_, by (try rw [c13_1]); (try rw [c17_2]); (try rw [c21_3]); rfl, st.ext, fun _ => rfl, fun h => absurd h (by (try rw [c13_1]); (try rw [c17_2]); (try rw [c21_3]); exact (by decide : (1 : Int) ≠ 0))⟩
      ·
        have c21_3p := of_decide_eq_false c21_3
        refine RP_at (m' := [(0, .int .i64 node), (1, .int .i64 clock), (2, .slice b L.length c), (21, .bool false)]) (by rw [c21_3]) ?_
        refine RP_seg 3 [.p (.int .i64 clock), .p (.bool (decide (clock > 1099511627776))), .p (.bool (decide (clock > 1099511627776)))] [0, 1, 2, 24] (by kernel_rfl) (fun _ => by kernel_rfl) (by kernel_rfl : pick _ _ = some [(0, .int .i64 node), (1, .int .i64 clock), (2, .slice b L.length c), (24, .bool (decide (clock > 1099511627776)))]) (trivial) ?_
        refine RP_pick [0, 1, 2, 24] (by kernel_rfl : pick _ _ = some [(0, .int .i64 node), (1, .int .i64 clock), (2, .slice b L.length c), (24, .bool (decide (clock > 1099511627776)))]) ?_
        refine RP_nil ?_
        refine n_then ?_
        refine W_cond rfl (fun c24_4 => ?_) (fun c24_4 => ?_)
        ·
          have c24_4p := of_decide_eq_true c24_4
          refine W_seq ?_
          refine W_region ?_
          refine RP_seg 2 [.p (.pointer none), .p (.int .i64 1)] [6, 7] (by kernel_rfl) (fun _ => by kernel_rfl) (by kernel_rfl : pick _ _ = some [(6, .pointer none), (7, .int .i64 1)]) (trivial) ?_
          refine RP_pick [6, 7] (by kernel_rfl : pick _ _ = some [(6, .pointer none), (7, .int .i64 1)]) ?_
          refine RP_nil ?_
          refine n_then ?_
          refine W_ret ?_
          refine r_then ?_
          refine ret_of (P := Tryd.prog) (fn := Tryd.f41) (m := [(6, .pointer none), (7, .int .i64 1)]) (w := w) (res2 rfl (rv_tmp rfl) (rv_tmp rfl)) ?_
          -- return 3: .pointer none, .int .i64 1
          exact ⟨_, by (try rw [c13_1]); (try rw [c17_2]); (try rw [c21_3]); (try rw [c24_4]); rfl, st.ext, fun _ => rfl, fun h => absurd h (by (try rw [c13_1]); (try rw [c17_2]); (try rw [c21_3]); (try rw [c24_4]); exact (by decide : (1 : Int) ≠ 0))⟩
        ·
          have c24_4p := of_decide_eq_false c24_4
          refine W_skip ?_
          refine n_then ?_
          refine W_seq ?_
          refine W_seq ?_
          refine W_region ?_
          refine RP_seg 3 [.p (.slice b L.length c), .p (.int .i64 ((L.length : Nat) : Int)), .p (.bool (decide (((L.length : Nat) : Int) > 256)))] [0, 1, 2, 27] (by kernel_rfl) (fun _ => by kernel_rfl) (by kernel_rfl : pick _ _ = some [(0, .int .i64 node), (1, .int .i64 clock), (2, .slice b L.length c), (27, .bool (decide (((L.length : Nat) : Int) > 256)))]) (trivial) ?_
          refine RP_pick [0, 1, 2, 27] (by kernel_rfl : pick _ _ = some [(0, .int .i64 node), (1, .int .i64 clock), (2, .slice b L.length c), (27, .bool (decide (((L.length : Nat) : Int) > 256)))]) ?_
          refine RP_nil ?_
          refine n_then ?_
          refine W_cond rfl (fun c27_5 => ?_) (fun c27_5 => ?_)
          ·
            have c27_5p := of_decide_eq_true c27_5
            refine W_seq ?_
            refine W_region ?_
            refine RP_seg 2 [.p (.pointer none), .p (.int .i64 80)] [6, 7] (by kernel_rfl) (fun _ => by kernel_rfl) (by kernel_rfl : pick _ _ = some [(6, .pointer none), (7, .int .i64 80)]) (trivial) ?_
            refine RP_pick [6, 7] (by kernel_rfl : pick _ _ = some [(6, .pointer none), (7, .int .i64 80)]) ?_
            refine RP_nil ?_
            refine n_then ?_
            refine W_ret ?_
            refine r_then ?_
            refine ret_of (P := Tryd.prog) (fn := Tryd.f41) (m := [(6, .pointer none), (7, .int .i64 80)]) (w := w) (res2 rfl (rv_tmp rfl) (rv_tmp rfl)) ?_
            -- return 4: .pointer none, .int .i64 80
            exact ⟨_, by (try rw [c13_1]); (try rw [c17_2]); (try rw [c21_3]); (try rw [c24_4]); (try rw [c27_5]); rfl, st.ext, fun _ => rfl, fun h => absurd h (by (try rw [c13_1]); (try rw [c17_2]); (try rw [c21_3]); (try rw [c24_4]); (try rw [c27_5]); exact (by decide : (80 : Int) ≠ 0))⟩
          ·
            have c27_5p := of_decide_eq_false c27_5
            refine W_skip ?_
            refine n_then ?_
            refine W_seq ?_
            refine W_seq ?_
            refine W_region ?_
            refine RP_seg 3 [.p (.slice b L.length c), .p (.int .i64 ((L.length : Nat) : Int)), .p (.int .i64 0)] [0, 1, 2, 28, 29, 30] (by kernel_rfl) (fun _ => by kernel_rfl) (by kernel_rfl : pick _ _ = some [(0, .int .i64 node), (1, .int .i64 clock), (2, .slice b L.length c), (28, .slice b L.length c), (29, .int .i64 ((L.length : Nat) : Int)), (30, .int .i64 0)]) (trivial) ?_
            refine RP_pick [0, 1, 2, 28, 29, 30] (by kernel_rfl : pick _ _ = some [(0, .int .i64 node), (1, .int .i64 clock), (2, .slice b L.length c), (28, .slice b L.length c), (29, .int .i64 ((L.length : Nat) : Int)), (30, .int .i64 0)]) ?_
            refine RP_nil ?_
            refine n_then ?_
            refine W_block ?_
            refine W_loop (fun k_ m_ w_ => ∃ (i : Nat), L.length - i = k_ ∧ m_ = [(0, .int .i64 node), (1, .int .i64 clock), (2, .slice b L.length c), (28, .slice b L.length c), (29, .int .i64 ((L.length : Nat) : Int)), (30, .int .i64 ((i : Nat) : Int))] ∧ St [] w w_ [] ∧ i ≤ L.length ∧ loadE clock (prevE L i) (L.drop i) = loadE clock none L) ⟨0, rfl, rfl, st, Nat.zero_le _, rfl⟩ ?_
            rintro _ _ w7 ⟨i, rfl, rfl, st6, hil, hle⟩
            refine W_seq ?_
            refine W_region ?_
            refine RP_seg 1 [.p (.bool (decide (((i : Nat) : Int) < ((L.length : Nat) : Int))))] [0, 1, 2, 28, 29, 30, 31] (by kernel_rfl) (fun _ => by kernel_rfl) (by kernel_rfl : pick _ _ = some [(0, .int .i64 node), (1, .int .i64 clock), (2, .slice b L.length c), (28, .slice b L.length c), (29, .int .i64 ((L.length : Nat) : Int)), (30, .int .i64 ((i : Nat) : Int)), (31, .bool (decide (((i : Nat) : Int) < ((L.length : Nat) : Int))))]) (trivial) ?_
            refine RP_pick [0, 1, 2, 28, 29, 30, 31] (by kernel_rfl : pick _ _ = some [(0, .int .i64 node), (1, .int .i64 clock), (2, .slice b L.length c), (28, .slice b L.length c), (29, .int .i64 ((L.length : Nat) : Int)), (30, .int .i64 ((i : Nat) : Int)), (31, .bool (decide (((i : Nat) : Int) < ((L.length : Nat) : Int))))]) ?_
            refine RP_nil ?_
            refine n_then ?_
            refine W_seq ?_
            refine W_cond rfl (fun c31_8 => ?_) (fun c31_8 => ?_)
            ·
              have c31_8p := of_decide_eq_true c31_8
              refine W_skip ?_
              refine n_then ?_
              refine W_seq ?_
              refine W_block ?_
              refine W_seq ?_
              refine W_region ?_
              refine RP_seg 1 [.p (.int .i64 ((i : Nat) : Int))] [0, 1, 2, 28, 29, 30, 32] (by kernel_rfl) (fun _ => by kernel_rfl) (by kernel_rfl : pick _ _ = some [(0, .int .i64 node), (1, .int .i64 clock), (2, .slice b L.length c), (28, .slice b L.length c), (29, .int .i64 ((L.length : Nat) : Int)), (30, .int .i64 ((i : Nat) : Int)), (32, .int .i64 ((i : Nat) : Int))]) (trivial) ?_
              have hlt : i < L.length := by omega
              obtain ⟨e, he⟩ : ∃ e, L[i]? = some e := ⟨L[i], by simp [hlt]⟩
              have hbs := hin.some_ (by rw [entCells_len]; omega)
              refine RP_q rfl (v := .pointer (some ⟨(sp b), so b + i * 5, none⟩)) (ev_indexI idxEnt rfl rfl hbs hlt) ?_
              refine RP_seg 1 [.l 61 (.pointer (some ⟨(sp b), so b + i * 5, none⟩)) (.agg #[.string e.key, .int .i64 e.c, .int .i64 e.n, .string e.val, .bool e.dead])] [0, 1, 2, 28, 29, 30, 32, 34] (by kernel_rfl) (fun _ => by kernel_rfl) (by kernel_rfl : pick _ _ = some [(0, .int .i64 node), (1, .int .i64 clock), (2, .slice b L.length c), (28, .slice b L.length c), (29, .int .i64 ((L.length : Nat) : Int)), (30, .int .i64 ((i : Nat) : Int)), (32, .int .i64 ((i : Nat) : Int)), (34, .agg #[.string e.key, .int .i64 e.c, .int .i64 e.n, .string e.val, .bool e.dead])]) ⟨InS.loadN agg_61 (hin.ext0 st6.ext) (entCells_at he) rfl (by decide), trivial⟩ ?_
              refine RP_e rfl (ef_alloc st6 zero_61 rfl) ?_
              rintro _ w9 ⟨g10, rfl, hg10, hg10', st10, hx11⟩
              replace st10 : St [] w w9 [(g10, 61, [.string (⟨#[]⟩ : ByteArray), .int .i64 0, .int .i64 0, .string (⟨#[]⟩ : ByteArray), .bool false])] := st10
              refine RP_seg 1 [.p (.int .i64 ((i : Nat) : Int))] [0, 1, 2, 8, 9, 28, 29, 30, 34] (by kernel_rfl) (fun _ => by kernel_rfl) (by kernel_rfl : pick _ _ = some [(0, .int .i64 node), (1, .int .i64 clock), (2, .slice b L.length c), (8, .int .i64 ((i : Nat) : Int)), (9, .pointer (some ⟨g10, 0, none⟩)), (28, .slice b L.length c), (29, .int .i64 ((L.length : Nat) : Int)), (30, .int .i64 ((i : Nat) : Int)), (34, .agg #[.string e.key, .int .i64 e.c, .int .i64 e.n, .string e.val, .bool e.dead])]) (trivial) ?_
              refine RP_e rfl (ef_store st10 rfl rfl rfl size_61 0 rfl rfl rfl rfl (.inr hg10)) ?_
              rintro _ w12 ⟨rfl, st13, hx14⟩
              replace st13 : St [] w w12 [(g10, 61, [.string e.key, .int .i64 e.c, .int .i64 e.n, .string e.val, .bool e.dead])] := st13
              refine RP_pick [0, 1, 2, 8, 9, 28, 29, 30] (by kernel_rfl : pick _ _ = some [(0, .int .i64 node), (1, .int .i64 clock), (2, .slice b L.length c), (8, .int .i64 ((i : Nat) : Int)), (9, .pointer (some ⟨g10, 0, none⟩)), (28, .slice b L.length c), (29, .int .i64 ((L.length : Nat) : Int)), (30, .int .i64 ((i : Nat) : Int))]) ?_
              refine RP_nil ?_
              refine n_then ?_
              refine W_seq ?_
              refine W_seq ?_
              refine W_region ?_
              refine RP_seg 1 [.l 61 (.pointer (some ⟨g10, 0, none⟩)) (.agg #[.string e.key, .int .i64 e.c, .int .i64 e.n, .string e.val, .bool e.dead])] [0, 1, 2, 8, 9, 28, 29, 30, 35] (by kernel_rfl) (fun _ => by kernel_rfl) (by kernel_rfl : pick _ _ = some [(0, .int .i64 node), (1, .int .i64 clock), (2, .slice b L.length c), (8, .int .i64 ((i : Nat) : Int)), (9, .pointer (some ⟨g10, 0, none⟩)), (28, .slice b L.length c), (29, .int .i64 ((L.length : Nat) : Int)), (30, .int .i64 ((i : Nat) : Int)), (35, .agg #[.string e.key, .int .i64 e.c, .int .i64 e.n, .string e.val, .bool e.dead])]) ⟨ldN st13 agg_61 0 rfl rfl rfl, trivial⟩ ?_
              refine RP_e rfl (ef_call (k := 98) (args := [.agg #[.string e.key, .int .i64 e.c, .int .i64 e.n, .string e.val, .bool e.dead]]) (ref03_cr e _) body_98 (by kernel_rfl)) ?_
              rintro _ w15 ⟨_, rfl, rfl, hx17⟩
              have st16 := st13.call0 hx17
              refine RP_seg 1 [.p (.int .i64 e.check)] [0, 1, 2, 8, 9, 10, 28, 29, 30] (by kernel_rfl) (fun _ => by kernel_rfl) (by kernel_rfl : pick _ _ = some [(0, .int .i64 node), (1, .int .i64 clock), (2, .slice b L.length c), (8, .int .i64 ((i : Nat) : Int)), (9, .pointer (some ⟨g10, 0, none⟩)), (10, .int .i64 e.check), (28, .slice b L.length c), (29, .int .i64 ((L.length : Nat) : Int)), (30, .int .i64 ((i : Nat) : Int))]) (trivial) ?_
              refine RP_pick [0, 1, 2, 8, 9, 10, 28, 29, 30] (by kernel_rfl : pick _ _ = some [(0, .int .i64 node), (1, .int .i64 clock), (2, .slice b L.length c), (8, .int .i64 ((i : Nat) : Int)), (9, .pointer (some ⟨g10, 0, none⟩)), (10, .int .i64 e.check), (28, .slice b L.length c), (29, .int .i64 ((L.length : Nat) : Int)), (30, .int .i64 ((i : Nat) : Int))]) ?_
              refine RP_nil ?_
              refine n_then ?_
              refine W_seq ?_
              refine W_region ?_
              refine RP_seg 2 [.p (.int .i64 e.check), .p (.bool (e.check != 0))] [0, 1, 2, 8, 9, 10, 28, 29, 30, 38] (by kernel_rfl) (fun _ => by kernel_rfl) (by kernel_rfl : pick _ _ = some [(0, .int .i64 node), (1, .int .i64 clock), (2, .slice b L.length c), (8, .int .i64 ((i : Nat) : Int)), (9, .pointer (some ⟨g10, 0, none⟩)), (10, .int .i64 e.check), (28, .slice b L.length c), (29, .int .i64 ((L.length : Nat) : Int)), (30, .int .i64 ((i : Nat) : Int)), (38, .bool (e.check != 0))]) (trivial) ?_
              refine RP_pick [0, 1, 2, 8, 9, 10, 28, 29, 30, 38] (by kernel_rfl : pick _ _ = some [(0, .int .i64 node), (1, .int .i64 clock), (2, .slice b L.length c), (8, .int .i64 ((i : Nat) : Int)), (9, .pointer (some ⟨g10, 0, none⟩)), (10, .int .i64 e.check), (28, .slice b L.length c), (29, .int .i64 ((L.length : Nat) : Int)), (30, .int .i64 ((i : Nat) : Int)), (38, .bool (e.check != 0))]) ?_
              refine RP_nil ?_
              refine n_then ?_
              refine W_cond rfl (fun c38_18 => ?_) (fun c38_18 => ?_)
              ·
                refine W_seq ?_
                refine W_region ?_
                refine RP_seg 3 [.p (.int .i64 e.check), .p (.pointer none), .p (.int .i64 e.check)] [6, 7] (by kernel_rfl) (fun _ => by kernel_rfl) (by kernel_rfl : pick _ _ = some [(6, .pointer none), (7, .int .i64 e.check)]) (trivial) ?_
                refine RP_pick [6, 7] (by kernel_rfl : pick _ _ = some [(6, .pointer none), (7, .int .i64 e.check)]) ?_
                refine RP_nil ?_
                refine n_then ?_
                refine W_ret ?_
                refine r_then <| r_block <| r_then <| r_loop <| r_block <| r_then ?_
                have hok : okE clock (prevE L i) e = e.check := by unfold okE; rw [c38_18]; rfl
                have hnz : (e.check : Int) ≠ 0 := by simpa using c38_18
                have hz : loadE clock none L = e.check := by rw [← hle, loadE_drop clock L he, hok, show ((e.check : Int) != 0) = true from by simpa using hnz]; rfl
                refine ret_of (P := Tryd.prog) (fn := Tryd.f41) (m := [(6, .pointer none), (7, .int .i64 e.check)]) (w := w15) (res2 rfl (rv_tmp rfl) (rv_tmp rfl)) ?_
                -- return 5: .pointer none, .int .i64 e.check
                exact ⟨_, by (try rw [c13_1]); (try rw [c17_2]); (try rw [c21_3]); (try rw [c24_4]); (try rw [c27_5]); (try rw [c31_8]); (try rw [c38_18]); rw [hz]; rfl, st16.ext, fun _ => rfl, fun h => absurd h (by (try rw [c13_1]); (try rw [c17_2]); (try rw [c21_3]); (try rw [c24_4]); (try rw [c27_5]); (try rw [c31_8]); (try rw [c38_18]); rw [hz]; exact hnz)⟩
              ·
                refine W_skip ?_
                refine n_then ?_
                refine W_seq ?_
                refine W_seq ?_
                -- region 11 draws: [(1, 0), (1, 1), (1, 2), (1, 3), (1, 4), (1, 5), (1, 6), (1, 7), (1, 8), (1, 9), (1, 10), (1, 11), (1, 12)]
                refine W_regionS (fun w' => Blk w' g10 61 [.string e.key, .int .i64 e.c, .int .i64 e.n, .string e.val, .bool e.dead].toArray ∧ InS w' b (entCells L)) [(1, 0), (1, 1), (1, 2), (1, 3), (1, 4), (1, 5), (1, 6), (1, 7), (1, 8), (1, 9), (1, 10), (1, 11), (1, 12)] 13 (by kernel_rfl) (by kernel_rfl) ?_
                have st19 := st16.drew
                refine RS_seg 3 [.p (.int .i64 ((i : Nat) : Int)), .p (.bool (decide (((i : Nat) : Int) > 0))), .p (.bool (decide (((i : Nat) : Int) > 0)))] [0, 1, 2, 8, 9, 28, 29, 30, 42] (by kernel_rfl) (by kernel_rfl) (⟨st19.get 0 rfl, hin.ext0 st19.ext⟩) (by kernel_rfl) (fun _ => by kernel_rfl) (by kernel_rfl : pick _ _ = some [(0, .int .i64 node), (1, .int .i64 clock), (2, .slice b L.length c), (8, .int .i64 ((i : Nat) : Int)), (9, .pointer (some ⟨g10, 0, none⟩)), (28, .slice b L.length c), (29, .int .i64 ((L.length : Nat) : Int)), (30, .int .i64 ((i : Nat) : Int)), (42, .bool (decide (((i : Nat) : Int) > 0)))]) (fun _ hS => trivial) ?_
                rcases Bool.eq_false_or_eq_true (decide (((i : Nat) : Int) > 0)) with c42_20 | c42_20
                ·
                  have c42_20p := of_decide_eq_true c42_20
                  refine RS_at (m' := [(0, .int .i64 node), (1, .int .i64 clock), (2, .slice b L.length c), (8, .int .i64 ((i : Nat) : Int)), (9, .pointer (some ⟨g10, 0, none⟩)), (28, .slice b L.length c), (29, .int .i64 ((L.length : Nat) : Int)), (30, .int .i64 ((i : Nat) : Int)), (42, .bool true)]) (by rw [c42_20]) ?_
                  refine RS_seg 5 [.p (.pointer (some ⟨g10, 0, none⟩)), .l 9 (.pointer (some ⟨g10, 0, none⟩)) (.string e.key), .p (.slice b L.length c), .p (.int .i64 ((i : Nat) : Int)), .p (.int .i64 (IntKind.i64.wrap (((i : Nat) : Int) - 1)))] [0, 1, 2, 9, 28, 29, 30, 42, 44, 45, 47] (by kernel_rfl) (by kernel_rfl) (⟨st19.get 0 rfl, hin.ext0 st19.ext⟩) (by kernel_rfl) (fun _ => by kernel_rfl) (by kernel_rfl : pick _ _ = some [(0, .int .i64 node), (1, .int .i64 clock), (2, .slice b L.length c), (9, .pointer (some ⟨g10, 0, none⟩)), (28, .slice b L.length c), (29, .int .i64 ((L.length : Nat) : Int)), (30, .int .i64 ((i : Nat) : Int)), (42, .bool true), (44, .string e.key), (45, .slice b L.length c), (47, .int .i64 (IntKind.i64.wrap (((i : Nat) : Int) - 1)))]) (fun _ hS => ⟨ld1b (hS.1) nagg_9 rfl, trivial⟩) ?_
                  refine RS_at (m' := [(0, .int .i64 node), (1, .int .i64 clock), (2, .slice b L.length c), (9, .pointer (some ⟨g10, 0, none⟩)), (28, .slice b L.length c), (29, .int .i64 ((L.length : Nat) : Int)), (30, .int .i64 ((i : Nat) : Int)), (42, .bool true), (44, .string e.key), (45, .slice b L.length c), (47, .int .i64 (((i - 1) : Nat) : Int))]) (by rw [show IntKind.i64.wrap (((i : Nat) : Int) - 1) = ((i - 1 : Nat) : Int) by rw [wrap_in (by omega) (by omega)]; omega]) ?_
                  obtain ⟨e0, he0⟩ : ∃ e, L[i - 1]? = some e := ⟨L[i - 1], by simp⟩
                  refine RS_gq rfl rfl rfl (⟨st19.get 0 rfl, hin.ext0 st19.ext⟩) (v := .pointer (some ⟨(sp b), so b + (i - 1) * 5, none⟩)) (fun _ _ => ev_indexI idxEnt rfl rfl hbs (by omega)) ?_
                  refine RS_seg 4 [.p (.pointer (some ⟨(sp b), so b + (i - 1) * 5, none⟩)), .l 9 (.pointer (some ⟨(sp b), so b + (i - 1) * 5, none⟩)) (.string e0.key), .p (.bool (Op.bytesLess (e.key).toList (e0.key).toList || (e.key).toList == (e0.key).toList)), .p (.bool (Op.bytesLess (e.key).toList (e0.key).toList || (e.key).toList == (e0.key).toList))] [0, 1, 2, 9, 28, 29, 30, 52] (by kernel_rfl) (by kernel_rfl) (⟨st19.get 0 rfl, hin.ext0 st19.ext⟩) (by kernel_rfl) (fun _ => by kernel_rfl) (by kernel_rfl : pick _ _ = some [(0, .int .i64 node), (1, .int .i64 clock), (2, .slice b L.length c), (9, .pointer (some ⟨g10, 0, none⟩)), (28, .slice b L.length c), (29, .int .i64 ((L.length : Nat) : Int)), (30, .int .i64 ((i : Nat) : Int)), (52, .bool (Op.bytesLess (e.key).toList (e0.key).toList || (e.key).toList == (e0.key).toList))]) (fun _ hS => ⟨(InS.load1 nagg_9 (hS.2) (entCells_0 he0 rfl)), trivial⟩) ?_
                  refine RS_pick [0, 1, 2, 9, 28, 29, 30, 52] (by kernel_rfl : pick _ _ = some [(0, .int .i64 node), (1, .int .i64 clock), (2, .slice b L.length c), (9, .pointer (some ⟨g10, 0, none⟩)), (28, .slice b L.length c), (29, .int .i64 ((L.length : Nat) : Int)), (30, .int .i64 ((i : Nat) : Int)), (52, .bool (Op.bytesLess (e.key).toList (e0.key).toList || (e.key).toList == (e0.key).toList))]) ?_
                  refine RS_nil ?_
                  refine n_then ?_
                  refine W_cond rfl (fun c52_21 => ?_) (fun c52_21 => ?_)
                  ·
                    refine W_seq ?_
                    refine W_region ?_
                    refine RP_seg 2 [.p (.pointer none), .p (.int .i64 90)] [6, 7] (by kernel_rfl) (fun _ => by kernel_rfl) (by kernel_rfl : pick _ _ = some [(6, .pointer none), (7, .int .i64 90)]) (trivial) ?_
                    refine RP_pick [6, 7] (by kernel_rfl : pick _ _ = some [(6, .pointer none), (7, .int .i64 90)]) ?_
                    refine RP_nil ?_
                    refine n_then ?_
                    refine W_ret ?_
                    refine r_then <| r_block <| r_then <| r_loop <| r_block <| r_then ?_
                    have hp : prevE L i = some e0 := by unfold prevE; rw [if_neg (by omega)]; exact he0
                    have hkk := c52_21
                    rw [blt_total] at hkk
                    have hok : okE clock (prevE L i) e = 90 := by unfold okE; rw [c38_18, hp]; (try dsimp only); (try rw [hkk]); rfl
                    have hnz : (90 : Int) ≠ 0 := (by decide : (90 : Int) ≠ 0)
                    have hz : loadE clock none L = 90 := by rw [← hle, loadE_drop clock L he, hok, show ((90 : Int) != 0) = true from by simpa using hnz]; rfl
                    refine ret_of (P := Tryd.prog) (fn := Tryd.f41) (m := [(6, .pointer none), (7, .int .i64 90)]) (w := w15.drew) (res2 rfl (rv_tmp rfl) (rv_tmp rfl)) ?_
                    -- return 6: .pointer none, .int .i64 90
                    exact ⟨_, by (try rw [c13_1]); (try rw [c17_2]); (try rw [c21_3]); (try rw [c24_4]); (try rw [c27_5]); (try rw [c31_8]); (try rw [c38_18]); (try rw [c42_20]); (try rw [c52_21]); rw [hz]; rfl, st19.ext, fun _ => rfl, fun h => absurd h (by (try rw [c13_1]); (try rw [c17_2]); (try rw [c21_3]); (try rw [c24_4]); (try rw [c27_5]); (try rw [c31_8]); (try rw [c38_18]); (try rw [c42_20]); (try rw [c52_21]); rw [hz]; exact hnz)⟩
                  ·
                    refine W_skip ?_
                    refine n_then ?_
                    refine W_seq ?_
                    refine W_region ?_
                    refine RP_seg 5 [.p (.pointer (some ⟨g10, 1, none⟩)), .p (.pointer (some ⟨g10, 1, none⟩)), .l 3 (.pointer (some ⟨g10, 1, none⟩)) (.int .i64 e.c), .p (.int .i64 clock), .p (.bool (decide (e.c > clock)))] [0, 1, 2, 28, 29, 30, 57] (by kernel_rfl) (fun _ => by kernel_rfl) (by kernel_rfl : pick _ _ = some [(0, .int .i64 node), (1, .int .i64 clock), (2, .slice b L.length c), (28, .slice b L.length c), (29, .int .i64 ((L.length : Nat) : Int)), (30, .int .i64 ((i : Nat) : Int)), (57, .bool (decide (e.c > clock)))]) ⟨ld1 st19 nagg_3 0 rfl rfl, trivial⟩ ?_
                    refine RP_pick [0, 1, 2, 28, 29, 30, 57] (by kernel_rfl : pick _ _ = some [(0, .int .i64 node), (1, .int .i64 clock), (2, .slice b L.length c), (28, .slice b L.length c), (29, .int .i64 ((L.length : Nat) : Int)), (30, .int .i64 ((i : Nat) : Int)), (57, .bool (decide (e.c > clock)))]) ?_
                    refine RP_nil ?_
                    refine n_then ?_
                    refine W_cond rfl (fun c57_22 => ?_) (fun c57_22 => ?_)
                    ·
                      have c57_22p := of_decide_eq_true c57_22
                      refine W_seq ?_
                      refine W_region ?_
                      refine RP_seg 2 [.p (.pointer none), .p (.int .i64 30)] [6, 7] (by kernel_rfl) (fun _ => by kernel_rfl) (by kernel_rfl : pick _ _ = some [(6, .pointer none), (7, .int .i64 30)]) (trivial) ?_
                      refine RP_pick [6, 7] (by kernel_rfl : pick _ _ = some [(6, .pointer none), (7, .int .i64 30)]) ?_
                      refine RP_nil ?_
                      refine n_then ?_
                      refine W_ret ?_
                      refine r_block <| r_then <| r_loop <| r_block <| r_then ?_
                      have hp : prevE L i = some e0 := by unfold prevE; rw [if_neg (by omega)]; exact he0
                      have hkk := c52_21
                      rw [blt_total] at hkk
                      have hok : okE clock (prevE L i) e = 30 := by unfold okE; rw [c38_18, hp]; (try dsimp only); (try rw [hkk]); (try rw [c57_22]); rfl
                      have hnz : (30 : Int) ≠ 0 := (by decide : (30 : Int) ≠ 0)
                      have hz : loadE clock none L = 30 := by rw [← hle, loadE_drop clock L he, hok, show ((30 : Int) != 0) = true from by simpa using hnz]; rfl
                      refine ret_of (P := Tryd.prog) (fn := Tryd.f41) (m := [(6, .pointer none), (7, .int .i64 30)]) (w := w15.drew) (res2 rfl (rv_tmp rfl) (rv_tmp rfl)) ?_
                      -- return 7: .pointer none, .int .i64 30
                      exact ⟨_, by (try rw [c13_1]); (try rw [c17_2]); (try rw [c21_3]); (try rw [c24_4]); (try rw [c27_5]); (try rw [c31_8]); (try rw [c38_18]); (try rw [c42_20]); (try rw [c52_21]); (try rw [c57_22]); rw [hz]; rfl, st19.ext, fun _ => rfl, fun h => absurd h (by (try rw [c13_1]); (try rw [c17_2]); (try rw [c21_3]); (try rw [c24_4]); (try rw [c27_5]); (try rw [c31_8]); (try rw [c38_18]); (try rw [c42_20]); (try rw [c52_21]); (try rw [c57_22]); rw [hz]; exact hnz)⟩
                    ·
                      have c57_22p := of_decide_eq_false c57_22
                      refine W_skip ?_
                      refine n_block ?_
                      refine n_then ?_
                      refine W_region ?_
                      refine RP_seg 2 [.p (.int .i64 (IntKind.i64.wrap (((i : Nat) : Int) + 1))), .p (.int .i64 (IntKind.i64.wrap (((i : Nat) : Int) + 1)))] [0, 1, 2, 28, 29, 30] (by kernel_rfl) (fun _ => by kernel_rfl) (by kernel_rfl : pick _ _ = some [(0, .int .i64 node), (1, .int .i64 clock), (2, .slice b L.length c), (28, .slice b L.length c), (29, .int .i64 ((L.length : Nat) : Int)), (30, .int .i64 (IntKind.i64.wrap (((i : Nat) : Int) + 1)))]) (trivial) ?_
                      refine RP_pick [0, 1, 2, 28, 29, 30] (by kernel_rfl : pick _ _ = some [(0, .int .i64 node), (1, .int .i64 clock), (2, .slice b L.length c), (28, .slice b L.length c), (29, .int .i64 ((L.length : Nat) : Int)), (30, .int .i64 (IntKind.i64.wrap (((i : Nat) : Int) + 1)))]) ?_
                      refine RP_nil ?_
                      have hp : prevE L i = some e0 := by unfold prevE; rw [if_neg (by omega)]; exact he0
                      have hkk := c52_21
                      rw [blt_total] at hkk
                      have hok : okE clock (prevE L i) e = 0 := by unfold okE; rw [c38_18, hp]; (try dsimp only); (try rw [hkk]); (try rw [c57_22]); rfl
                      have hz : loadE clock (prevE L (i + 1)) (L.drop (i + 1)) = loadE clock none L := by rw [← hle, loadE_drop clock L he, hok]; rfl
                      -- back 0: [(0, .int .i64 node), (1, .int .i64 clock), (2, .slice b L.length c), (28, .slice b L.length c), (29, .int .i64 ((L.length : Nat) : Int)), (30, .int .i64 (IntKind.i64.wrap (((i : Nat) : Int) + 1)))]
                      exact ⟨_, by omega, (i + 1), rfl, by rw [inc_w (n := i) (by omega)], st19.sub [] (List.sublist_cons_self _ _), by omega, hz⟩
                ·
                  have c42_20p := of_decide_eq_false c42_20
                  refine RS_at (m' := [(0, .int .i64 node), (1, .int .i64 clock), (2, .slice b L.length c), (8, .int .i64 ((i : Nat) : Int)), (9, .pointer (some ⟨g10, 0, none⟩)), (28, .slice b L.length c), (29, .int .i64 ((L.length : Nat) : Int)), (30, .int .i64 ((i : Nat) : Int)), (42, .bool false)]) (by rw [c42_20]) ?_
                  refine RS_seg 10 [.no, .no, .no, .no, .no, .no, .no, .no, .no, .p (.bool false)] [0, 1, 2, 9, 28, 29, 30, 52] (by kernel_rfl) (by kernel_rfl) (⟨st19.get 0 rfl, hin.ext0 st19.ext⟩) (by kernel_rfl) (fun _ => by kernel_rfl) (by kernel_rfl : pick _ _ = some [(0, .int .i64 node), (1, .int .i64 clock), (2, .slice b L.length c), (9, .pointer (some ⟨g10, 0, none⟩)), (28, .slice b L.length c), (29, .int .i64 ((L.length : Nat) : Int)), (30, .int .i64 ((i : Nat) : Int)), (52, .bool false)]) (fun _ hS => trivial) ?_
                  refine RS_pick [0, 1, 2, 9, 28, 29, 30, 52] (by kernel_rfl : pick _ _ = some [(0, .int .i64 node), (1, .int .i64 clock), (2, .slice b L.length c), (9, .pointer (some ⟨g10, 0, none⟩)), (28, .slice b L.length c), (29, .int .i64 ((L.length : Nat) : Int)), (30, .int .i64 ((i : Nat) : Int)), (52, .bool false)]) ?_
                  refine RS_nil ?_
                  refine n_then ?_
                  refine W_false rfl ?_
                  refine W_skip ?_
                  refine n_then ?_
                  refine W_seq ?_
                  refine W_region ?_
                  refine RP_seg 5 [.p (.pointer (some ⟨g10, 1, none⟩)), .p (.pointer (some ⟨g10, 1, none⟩)), .l 3 (.pointer (some ⟨g10, 1, none⟩)) (.int .i64 e.c), .p (.int .i64 clock), .p (.bool (decide (e.c > clock)))] [0, 1, 2, 28, 29, 30, 57] (by kernel_rfl) (fun _ => by kernel_rfl) (by kernel_rfl : pick _ _ = some [(0, .int .i64 node), (1, .int .i64 clock), (2, .slice b L.length c), (28, .slice b L.length c), (29, .int .i64 ((L.length : Nat) : Int)), (30, .int .i64 ((i : Nat) : Int)), (57, .bool (decide (e.c > clock)))]) ⟨ld1 st19 nagg_3 0 rfl rfl, trivial⟩ ?_
                  refine RP_pick [0, 1, 2, 28, 29, 30, 57] (by kernel_rfl : pick _ _ = some [(0, .int .i64 node), (1, .int .i64 clock), (2, .slice b L.length c), (28, .slice b L.length c), (29, .int .i64 ((L.length : Nat) : Int)), (30, .int .i64 ((i : Nat) : Int)), (57, .bool (decide (e.c > clock)))]) ?_
                  refine RP_nil ?_
                  refine n_then ?_
                  refine W_cond rfl (fun c57_23 => ?_) (fun c57_23 => ?_)
                  ·
                    have c57_23p := of_decide_eq_true c57_23
                    refine W_seq ?_
                    refine W_region ?_
                    refine RP_seg 2 [.p (.pointer none), .p (.int .i64 30)] [6, 7] (by kernel_rfl) (fun _ => by kernel_rfl) (by kernel_rfl : pick _ _ = some [(6, .pointer none), (7, .int .i64 30)]) (trivial) ?_
                    refine RP_pick [6, 7] (by kernel_rfl : pick _ _ = some [(6, .pointer none), (7, .int .i64 30)]) ?_
                    refine RP_nil ?_
                    refine n_then ?_
                    refine W_ret ?_
                    refine r_block <| r_then <| r_loop <| r_block <| r_then ?_
                    have hp : prevE L i = none := by unfold prevE; rw [if_pos (by omega)]
                    have hok : okE clock (prevE L i) e = 30 := by unfold okE; rw [c38_18, hp]; (try dsimp only); (try rw [c57_23]); rfl
                    have hnz : (30 : Int) ≠ 0 := (by decide : (30 : Int) ≠ 0)
                    have hz : loadE clock none L = 30 := by rw [← hle, loadE_drop clock L he, hok, show ((30 : Int) != 0) = true from by simpa using hnz]; rfl
                    refine ret_of (P := Tryd.prog) (fn := Tryd.f41) (m := [(6, .pointer none), (7, .int .i64 30)]) (w := w15.drew) (res2 rfl (rv_tmp rfl) (rv_tmp rfl)) ?_
                    -- return 8: .pointer none, .int .i64 30
                    exact ⟨_, by (try rw [c13_1]); (try rw [c17_2]); (try rw [c21_3]); (try rw [c24_4]); (try rw [c27_5]); (try rw [c31_8]); (try rw [c38_18]); (try rw [c42_20]); (try rw [c57_23]); rw [hz]; rfl, st19.ext, fun _ => rfl, fun h => absurd h (by (try rw [c13_1]); (try rw [c17_2]); (try rw [c21_3]); (try rw [c24_4]); (try rw [c27_5]); (try rw [c31_8]); (try rw [c38_18]); (try rw [c42_20]); (try rw [c57_23]); rw [hz]; exact hnz)⟩
                  ·
                    have c57_23p := of_decide_eq_false c57_23
                    refine W_skip ?_
                    refine n_block ?_
                    refine n_then ?_
                    refine W_region ?_
                    refine RP_seg 2 [.p (.int .i64 (IntKind.i64.wrap (((i : Nat) : Int) + 1))), .p (.int .i64 (IntKind.i64.wrap (((i : Nat) : Int) + 1)))] [0, 1, 2, 28, 29, 30] (by kernel_rfl) (fun _ => by kernel_rfl) (by kernel_rfl : pick _ _ = some [(0, .int .i64 node), (1, .int .i64 clock), (2, .slice b L.length c), (28, .slice b L.length c), (29, .int .i64 ((L.length : Nat) : Int)), (30, .int .i64 (IntKind.i64.wrap (((i : Nat) : Int) + 1)))]) (trivial) ?_
                    refine RP_pick [0, 1, 2, 28, 29, 30] (by kernel_rfl : pick _ _ = some [(0, .int .i64 node), (1, .int .i64 clock), (2, .slice b L.length c), (28, .slice b L.length c), (29, .int .i64 ((L.length : Nat) : Int)), (30, .int .i64 (IntKind.i64.wrap (((i : Nat) : Int) + 1)))]) ?_
                    refine RP_nil ?_
                    have hp : prevE L i = none := by unfold prevE; rw [if_pos (by omega)]
                    have hok : okE clock (prevE L i) e = 0 := by unfold okE; rw [c38_18, hp]; (try dsimp only); (try rw [c57_23]); rfl
                    have hz : loadE clock (prevE L (i + 1)) (L.drop (i + 1)) = loadE clock none L := by rw [← hle, loadE_drop clock L he, hok]; rfl
                    -- back 1: [(0, .int .i64 node), (1, .int .i64 clock), (2, .slice b L.length c), (28, .slice b L.length c), (29, .int .i64 ((L.length : Nat) : Int)), (30, .int .i64 (IntKind.i64.wrap (((i : Nat) : Int) + 1)))]
                    exact ⟨_, by omega, (i + 1), rfl, by rw [inc_w (n := i) (by omega)], st19.sub [] (List.sublist_cons_self _ _), by omega, hz⟩
            ·
              have c31_8p := of_decide_eq_false c31_8
              refine W_exit ?_
              refine e_then <| e_loop <| e_here ?_
              refine n_then ?_
              refine W_seq ?_
              refine W_region ?_
              have hiL : i = L.length := by omega
              rw [hiL, List.drop_length] at hle
              have hz : loadE clock none L = 0 := hle.symm
              refine RP_seg 3 [.p (.int .i64 node), .p (.int .i64 clock), .p (.slice b L.length c)] [59, 60, 61] (by kernel_rfl) (fun _ => by kernel_rfl) (by kernel_rfl : pick _ _ = some [(59, .int .i64 node), (60, .int .i64 clock), (61, .slice b L.length c)]) (trivial) ?_
              refine RP_e rfl (ef_appendI appEnt st6 (Acc.nil _ _ _ _ _) rfl rfl (hin.ext0 st6.ext) (entCells_len L) (entCells_one L) (by simp only [maxLen]; omega) (by omega) (by simp)) ?_
              rintro _ w24 ⟨v1, rfl, hac, -, hx26⟩
              have st25 := st6.call0 hx26
              simp only [Nat.zero_add, List.nil_append] at hac
              obtain ⟨b2, c2, rfl⟩ := ownsRow.form' hac.own
              refine RP_seg 1 [.p (.agg #[.int .i64 node, .int .i64 clock, .slice b2 L.length c2])] [63] (by kernel_rfl) (fun _ => by kernel_rfl) (by kernel_rfl : pick _ _ = some [(63, .agg #[.int .i64 node, .int .i64 clock, .slice b2 L.length c2])]) (trivial) ?_
              refine RP_e rfl (ef_box st25 rfl rfl) ?_
              rintro _ w27 ⟨gd, rfl, hgd, hgd', st28, hx29⟩
              replace st28 : St [] w w27 [(gd, 167, [.int .i64 node, .int .i64 clock, .slice b2 L.length c2])] := st28
              replace hac := hac.ext hx29 (by simp)
              refine RP_seg 2 [.p (.pointer (some ⟨gd, 0, none⟩)), .p (.int .i64 0)] [6, 7] (by kernel_rfl) (fun _ => by kernel_rfl) (by kernel_rfl : pick _ _ = some [(6, .pointer (some ⟨gd, 0, none⟩)), (7, .int .i64 0)]) (trivial) ?_
              refine RP_pick [6, 7] (by kernel_rfl : pick _ _ = some [(6, .pointer (some ⟨gd, 0, none⟩)), (7, .int .i64 0)]) ?_
              refine RP_nil ?_
              refine n_then ?_
              refine W_ret ?_
              refine ret_of (P := Tryd.prog) (fn := Tryd.f41) (m := [(6, .pointer (some ⟨gd, 0, none⟩)), (7, .int .i64 0)]) (w := w27) (res2 rfl (rv_tmp rfl) (rv_tmp rfl)) ?_
              -- return 9: .pointer (some ⟨gd, 0, none⟩), .int .i64 0
              exact ⟨_, by (try rw [c13_1]); (try rw [c17_2]); (try rw [c21_3]); (try rw [c24_4]); (try rw [c27_5]); (try rw [c31_8]); rw [hz]; rfl, st28.ext, fun h => absurd (by (try rw [c13_1]); (try rw [c17_2]); (try rw [c21_3]); (try rw [c24_4]); (try rw [c27_5]); (try rw [c31_8]); exact hz) h, fun _ => ⟨gd, b2, c2, rfl, ⟨st28.get 0 rfl, hac.own⟩, hgd, fun q hq => (hac.inn q hq).elim (fun h => by cases h) id⟩⟩
end Go.Proofs.YtcopemgkjbaaeaaDoor
