/-
  store.Load.
-/
import Derived.Test.YtcopemgkjbaaeaaDoorIns
namespace Go.Proofs.YtcopemgkjbaaeaaDoor
set_option linter.all false
open Go.RowKit

/-- what Load says of an entry behind another one -/
def okE (clock : Int) (p : Option Ent) (e : Ent) : Int := cond (e.check != 0) e.check (cond (match p with | some q => !(Op.bytesLess q.key.toList e.key.toList) | none => false) 90 (cond (decide (e.c > clock)) 30 0))
def loadE (clock : Int) : Option Ent → List Ent → Int
  | _, [] => 0
  | p, e :: l => cond (okE clock p e != 0) (okE clock p e) (loadE clock (some e) l)
def prevE (l : List Ent) (i : Nat) : Option Ent := if i = 0 then none else l[i - 1]?
theorem loadE_drop (clock : Int) (l : List Ent) {i : Nat} {e : Ent} (he : l[i]? = some e) : loadE clock (prevE l i) (l.drop i) = cond (okE clock (prevE l i) e != 0) (okE clock (prevE l i) e) (loadE clock (prevE l (i + 1)) (l.drop (i + 1))) := by
  obtain ⟨h1, h2⟩ := List.getElem?_eq_some_iff.1 he
  rw [List.drop_eq_getElem_cons h1, h2, loadE]
  congr 2
  simp [prevE, he]
def T.load (l : List Ent) : T := l.foldl (fun t e => T.put e t) .nil
theorem T.load_succ {l : List Ent} {i : Nat} {e : Ent} (he : l[i]? = some e) : T.load (l.take (i + 1)) = T.put e (T.load (l.take i)) := by
  unfold T.load
  rw [List.take_succ, he]; simp
theorem T.load_size (l : List Ent) : (T.load l).size ≤ l.length := by
  suffices h : ∀ (l : List Ent) (t : T), (l.foldl (fun t e => T.put e t) t).size ≤ t.size + l.length by simpa [T.load, T.size] using h l .nil
  intro l
  induction l with
  | nil => intro t; simp
  | cons e l ih => intro t; have := ih (T.put e t); have := T.put_size e t; simp only [List.foldl_cons, List.length_cons]; omega
def loadErr (node clock : Int) (l : List Ent) : Int :=
  cond (decide (node < 0)) 1 (cond (decide (node ≥ 8)) 1 (cond (decide (clock < 0)) 1 (cond (decide (clock > 1099511627776)) 1 (cond (decide (((l.length : Nat) : Int) > 256)) 80 (loadE clock none l)))))

theorem load_cr {w : World} {b : Option Addr} {c : Nat} {L : List Ent} (node clock : Int) (hl : Lanes w) (hin : InS w b (entCells L)) :
    CR Tryd.prog 42 [.int .i64 node, .int .i64 clock, .slice b L.length c] w fun v w' => ∃ u, v = .tuple #[u, .int .i64 (loadErr node clock L)] ∧ Ext [] w w' ∧ (loadErr node clock L ≠ 0 → u = .pointer none) ∧
      (loadErr node clock L = 0 → ∃ gs bm bt p j, u = .pointer (some ⟨gs, 0, none⟩) ∧ Sto w' gs bm bt p node clock j (T.load L) ∧ w.heap.size ≤ gs ∧ w.heap.size ≤ bm ∧ w.heap.size ≤ bt) := by
  have st := St.init w []
  unfold loadErr
  refine CR_enter Tryd.func42 rfl Tryd.ntmps42 rfl ?_
  refine W_seq ?_
  refine W_region ?_
  refine RP_seg 2 [.p (.pointer none), .p (.int .i64 0)] [0, 1, 2] (by kernel_rfl) (fun _ => by kernel_rfl) (by kernel_rfl : pick _ _ = some [(0, .int .i64 node), (1, .int .i64 clock), (2, .slice b L.length c)]) (trivial) ?_
  refine RP_pick [0, 1, 2] (by kernel_rfl : pick _ _ = some [(0, .int .i64 node), (1, .int .i64 clock), (2, .slice b L.length c)]) ?_
  refine RP_nil ?_
  refine n_then ?_
  refine W_seq ?_
  refine W_block ?_
  refine W_seq ?_
  refine W_seq ?_
  refine W_region ?_
  refine RP_seg 3 [.p (.int .i64 node), .p (.bool (decide (node < 0))), .p (.bool (decide (node < 0)))] [0, 1, 2, 12] (by kernel_rfl) (fun _ => by kernel_rfl) (by kernel_rfl : pick _ _ = some [(0, .int .i64 node), (1, .int .i64 clock), (2, .slice b L.length c), (12, .bool (decide (node < 0)))]) (trivial) ?_
  refine RP_pick [0, 1, 2, 12] (by kernel_rfl : pick _ _ = some [(0, .int .i64 node), (1, .int .i64 clock), (2, .slice b L.length c), (12, .bool (decide (node < 0)))]) ?_
  refine RP_nil ?_
  refine n_then ?_
  refine W_cond rfl (fun c12_1 => ?_) (fun c12_1 => ?_)
  ·
    have c12_1p := of_decide_eq_true c12_1
    refine W_skip ?_
    refine n_then ?_
    refine W_true' rfl c12_1 ?_
    refine W_seq ?_
    refine W_region ?_
    refine RP_seg 2 [.p (.pointer none), .p (.int .i64 1)] [6, 7] (by kernel_rfl) (fun _ => by kernel_rfl) (by kernel_rfl : pick _ _ = some [(6, .pointer none), (7, .int .i64 1)]) (trivial) ?_
    refine RP_pick [6, 7] (by kernel_rfl : pick _ _ = some [(6, .pointer none), (7, .int .i64 1)]) ?_
    refine RP_nil ?_
    refine n_then ?_
    refine W_ret ?_
    refine r_block <| r_then ?_
    refine ret_of (P := Tryd.prog) (fn := Tryd.f42) (m := [(6, .pointer none), (7, .int .i64 1)]) (w := w) (res2 rfl (rv_tmp rfl) (rv_tmp rfl)) ?_
    -- return 0: .pointer none, .int .i64 1
    exact ⟨_, by (try rw [c12_1]); rfl, st.ext, fun _ => rfl, fun h => absurd h (by (try rw [c12_1]); exact (by decide : (1 : Int) ≠ 0))⟩
  ·
    have c12_1p := of_decide_eq_false c12_1
    refine W_seq ?_
    refine W_region ?_
    refine RP_seg 3 [.p (.int .i64 node), .p (.bool (decide (node ≥ 8))), .p (.bool (decide (node ≥ 8)))] [0, 1, 2, 12] (by kernel_rfl) (fun _ => by kernel_rfl) (by kernel_rfl : pick _ _ = some [(0, .int .i64 node), (1, .int .i64 clock), (2, .slice b L.length c), (12, .bool (decide (node ≥ 8)))]) (trivial) ?_
    refine RP_pick [0, 1, 2, 12] (by kernel_rfl : pick _ _ = some [(0, .int .i64 node), (1, .int .i64 clock), (2, .slice b L.length c), (12, .bool (decide (node ≥ 8)))]) ?_
    refine RP_nil ?_
    refine n_then ?_
    refine W_cond rfl (fun c12_2 => ?_) (fun c12_2 => ?_)
    ·
      have c12_2p := of_decide_eq_true c12_2
      refine W_skip ?_
      refine n_then ?_
      refine W_true' rfl c12_2 ?_
      refine W_seq ?_
      refine W_region ?_
      refine RP_seg 2 [.p (.pointer none), .p (.int .i64 1)] [6, 7] (by kernel_rfl) (fun _ => by kernel_rfl) (by kernel_rfl : pick _ _ = some [(6, .pointer none), (7, .int .i64 1)]) (trivial) ?_
      refine RP_pick [6, 7] (by kernel_rfl : pick _ _ = some [(6, .pointer none), (7, .int .i64 1)]) ?_
      refine RP_nil ?_
      refine n_then ?_
      refine W_ret ?_
      refine r_block <| r_then ?_
      refine ret_of (P := Tryd.prog) (fn := Tryd.f42) (m := [(6, .pointer none), (7, .int .i64 1)]) (w := w) (res2 rfl (rv_tmp rfl) (rv_tmp rfl)) ?_
      -- return 1: .pointer none, .int .i64 1
      exact ⟨_, by (try rw [c12_1]); (try rw [c12_2]); rfl, st.ext, fun _ => rfl, fun h => absurd h (by (try rw [c12_1]); (try rw [c12_2]); exact (by decide : (1 : Int) ≠ 0))⟩
    ·
      have c12_2p := of_decide_eq_false c12_2
      refine W_seq ?_
      refine W_region ?_
      refine RP_seg 3 [.p (.int .i64 clock), .p (.bool (decide (clock < 0))), .p (.bool (decide (clock < 0)))] [0, 1, 2, 12] (by kernel_rfl) (fun _ => by kernel_rfl) (by kernel_rfl : pick _ _ = some [(0, .int .i64 node), (1, .int .i64 clock), (2, .slice b L.length c), (12, .bool (decide (clock < 0)))]) (trivial) ?_
      refine RP_pick [0, 1, 2, 12] (by kernel_rfl : pick _ _ = some [(0, .int .i64 node), (1, .int .i64 clock), (2, .slice b L.length c), (12, .bool (decide (clock < 0)))]) ?_
      refine RP_nil ?_
      refine n_then ?_
      refine W_cond rfl (fun c12_3 => ?_) (fun c12_3 => ?_)
      ·
        have c12_3p := of_decide_eq_true c12_3
        refine W_skip ?_
        refine n_then ?_
        refine W_true' rfl c12_3 ?_
        refine W_seq ?_
        refine W_region ?_
        refine RP_seg 2 [.p (.pointer none), .p (.int .i64 1)] [6, 7] (by kernel_rfl) (fun _ => by kernel_rfl) (by kernel_rfl : pick _ _ = some [(6, .pointer none), (7, .int .i64 1)]) (trivial) ?_
        refine RP_pick [6, 7] (by kernel_rfl : pick _ _ = some [(6, .pointer none), (7, .int .i64 1)]) ?_
        refine RP_nil ?_
        refine n_then ?_
        refine W_ret ?_
        refine r_block <| r_then ?_
        refine ret_of (P := Tryd.prog) (fn := Tryd.f42) (m := [(6, .pointer none), (7, .int .i64 1)]) (w := w) (res2 rfl (rv_tmp rfl) (rv_tmp rfl)) ?_
        -- return 2: .pointer none, .int .i64 1
        exact ⟨_, by (try rw [c12_1]); (try rw [c12_2]); (try rw [c12_3]); rfl, st.ext, fun _ => rfl, fun h => absurd h (by (try rw [c12_1]); (try rw [c12_2]); (try rw [c12_3]); exact (by decide : (1 : Int) ≠ 0))⟩
      ·
        have c12_3p := of_decide_eq_false c12_3
        refine W_region ?_
        refine RP_seg 3 [.p (.int .i64 clock), .p (.bool (decide (clock > 1099511627776))), .p (.bool (decide (clock > 1099511627776)))] [0, 1, 2, 12] (by kernel_rfl) (fun _ => by kernel_rfl) (by kernel_rfl : pick _ _ = some [(0, .int .i64 node), (1, .int .i64 clock), (2, .slice b L.length c), (12, .bool (decide (clock > 1099511627776)))]) (trivial) ?_
        refine RP_pick [0, 1, 2, 12] (by kernel_rfl : pick _ _ = some [(0, .int .i64 node), (1, .int .i64 clock), (2, .slice b L.length c), (12, .bool (decide (clock > 1099511627776)))]) ?_
        refine RP_nil ?_
        refine n_then ?_
        refine W_cond rfl (fun c12_4 => ?_) (fun c12_4 => ?_)
        ·
          have c12_4p := of_decide_eq_true c12_4
          refine W_seq ?_
          refine W_region ?_
          refine RP_seg 2 [.p (.pointer none), .p (.int .i64 1)] [6, 7] (by kernel_rfl) (fun _ => by kernel_rfl) (by kernel_rfl : pick _ _ = some [(6, .pointer none), (7, .int .i64 1)]) (trivial) ?_
          refine RP_pick [6, 7] (by kernel_rfl : pick _ _ = some [(6, .pointer none), (7, .int .i64 1)]) ?_
          refine RP_nil ?_
          refine n_then ?_
          refine W_ret ?_
          refine r_block <| r_then ?_
          refine ret_of (P := Tryd.prog) (fn := Tryd.f42) (m := [(6, .pointer none), (7, .int .i64 1)]) (w := w) (res2 rfl (rv_tmp rfl) (rv_tmp rfl)) ?_
          -- return 3: .pointer none, .int .i64 1
          exact ⟨_, by (try rw [c12_1]); (try rw [c12_2]); (try rw [c12_3]); (try rw [c12_4]); rfl, st.ext, fun _ => rfl, fun h => absurd h (by (try rw [c12_1]); (try rw [c12_2]); (try rw [c12_3]); (try rw [c12_4]); exact (by decide : (1 : Int) ≠ 0))⟩
        ·
          have c12_4p := of_decide_eq_false c12_4
          refine W_seq ?_
          refine W_region ?_
          refine RP_seg 4 [.p (.slice b L.length c), .p (.int .i64 ((L.length : Nat) : Int)), .p (.bool (decide (((L.length : Nat) : Int) > 256))), .p (.bool (decide (((L.length : Nat) : Int) > 256)))] [0, 1, 2, 21] (by kernel_rfl) (fun _ => by kernel_rfl) (by kernel_rfl : pick _ _ = some [(0, .int .i64 node), (1, .int .i64 clock), (2, .slice b L.length c), (21, .bool (decide (((L.length : Nat) : Int) > 256)))]) (trivial) ?_
          refine RP_pick [0, 1, 2, 21] (by kernel_rfl : pick _ _ = some [(0, .int .i64 node), (1, .int .i64 clock), (2, .slice b L.length c), (21, .bool (decide (((L.length : Nat) : Int) > 256)))]) ?_
          refine RP_nil ?_
          refine n_then ?_
          refine W_cond rfl (fun c21_5 => ?_) (fun c21_5 => ?_)
          ·
            have c21_5p := of_decide_eq_true c21_5
            refine W_seq ?_
            refine W_region ?_
            refine RP_seg 2 [.p (.pointer none), .p (.int .i64 80)] [6, 7] (by kernel_rfl) (fun _ => by kernel_rfl) (by kernel_rfl : pick _ _ = some [(6, .pointer none), (7, .int .i64 80)]) (trivial) ?_
            refine RP_pick [6, 7] (by kernel_rfl : pick _ _ = some [(6, .pointer none), (7, .int .i64 80)]) ?_
            refine RP_nil ?_
            refine n_then ?_
            refine W_ret ?_
            refine r_block <| r_then ?_
            refine ret_of (P := Tryd.prog) (fn := Tryd.f42) (m := [(6, .pointer none), (7, .int .i64 80)]) (w := w) (res2 rfl (rv_tmp rfl) (rv_tmp rfl)) ?_
            -- return 4: .pointer none, .int .i64 80
            exact ⟨_, by (try rw [c12_1]); (try rw [c12_2]); (try rw [c12_3]); (try rw [c12_4]); (try rw [c21_5]); rfl, st.ext, fun _ => rfl, fun h => absurd h (by (try rw [c12_1]); (try rw [c12_2]); (try rw [c12_3]); (try rw [c12_4]); (try rw [c21_5]); exact (by decide : (80 : Int) ≠ 0))⟩
          ·
            have c21_5p := of_decide_eq_false c21_5
            refine W_skip ?_
            refine n_block ?_
            refine n_then ?_
            refine W_seq ?_
            refine W_region ?_
            refine RP_seg 2 [.p (.int .i64 node), .p (.int .i64 clock)] [1, 2, 25, 26] (by kernel_rfl) (fun _ => by kernel_rfl) (by kernel_rfl : pick _ _ = some [(1, .int .i64 clock), (2, .slice b L.length c), (25, .int .i64 node), (26, .int .i64 clock)]) (trivial) ?_
            refine RP_e rfl (ef_call (k := 99) (args := []) (newMeter_cr _) body_99 (by kernel_rfl)) ?_
            rintro _ w6 ⟨_, rfl, bm, rfl, hbm, hmb, hx8⟩
            have st7 := st.call0 hx8
            replace hbm : w.heap.size ≤ bm := Nat.le_trans st.ext.size hbm
            refine RP_seg 1 [.p (.agg #[.int .i64 node, .int .i64 clock, .pointer (some ⟨bm, 0, none⟩), .pointer none])] [1, 2, 28] (by kernel_rfl) (fun _ => by kernel_rfl) (by kernel_rfl : pick _ _ = some [(1, .int .i64 clock), (2, .slice b L.length c), (28, .agg #[.int .i64 node, .int .i64 clock, .pointer (some ⟨bm, 0, none⟩), .pointer none])]) (trivial) ?_
            refine RP_e rfl (ef_box st7 rfl rfl) ?_
            rintro _ w9 ⟨gs, rfl, hgs, hgs', st10, hx11⟩
            replace st10 : St [] w w9 [(gs, 129, [.int .i64 node, .int .i64 clock, .pointer (some ⟨bm, 0, none⟩), .pointer none])] := st10
            replace hmb := Blk.ext hmb hx11 (by simp)
            refine RP_seg 1 [.p (.pointer (some ⟨gs, 0, none⟩))] [1, 2, 8] (by kernel_rfl) (fun _ => by kernel_rfl) (by kernel_rfl : pick _ _ = some [(1, .int .i64 clock), (2, .slice b L.length c), (8, .pointer (some ⟨gs, 0, none⟩))]) (trivial) ?_
            refine RP_pick [1, 2, 8] (by kernel_rfl : pick _ _ = some [(1, .int .i64 clock), (2, .slice b L.length c), (8, .pointer (some ⟨gs, 0, none⟩))]) ?_
            refine RP_nil ?_
            refine n_then ?_
            refine W_seq ?_
            refine W_region ?_
            refine RP_seg 7 [.p (.pointer (some ⟨gs, 0, none⟩)), .p (.agg #[.int .i64 0, .int .u64 0, .int .u64 0]), .p (.pointer (some ⟨gs, 0, none⟩)), .p (.pointer (some ⟨gs, 0, none⟩)), .p (.pointer (some ⟨gs, 2, none⟩)), .l 126 (.pointer (some ⟨gs, 2, none⟩)) (.pointer (some ⟨bm, 0, none⟩)), .p (.func (.func 101) #[.pointer (some ⟨bm, 0, none⟩)] #[])] [1, 2, 8, 30, 31, 36] (by kernel_rfl) (fun _ => by kernel_rfl) (by kernel_rfl : pick _ _ = some [(1, .int .i64 clock), (2, .slice b L.length c), (8, .pointer (some ⟨gs, 0, none⟩)), (30, .pointer (some ⟨gs, 0, none⟩)), (31, .agg #[.int .i64 0, .int .u64 0, .int .u64 0]), (36, .func (.func 101) #[.pointer (some ⟨bm, 0, none⟩)] #[])]) ⟨ld1 st10 nagg_126 0 rfl rfl, trivial⟩ ?_
            refine RP_e rfl (ef_call (k := 100) (args := [.agg #[.int .i64 0, .int .u64 0, .int .u64 0], .func (.func 101) #[.pointer (some ⟨bm, 0, none⟩)] #[]]) (newTree_cr _ bm) body_100 (by kernel_rfl)) ?_
            rintro _ w12 ⟨_, rfl, bt, rfl, hbt, htb, hx14⟩
            have st13 := st10.call0 hx14
            replace hmb := Blk.ext hmb hx14 (by simp)
            replace hbt : w.heap.size ≤ bt := Nat.le_trans st10.ext.size hbt
            have hTr : Tr w12 bt bm 0 none := ⟨htb, hmb⟩
            refine RP_seg 2 [.p (.pointer (some ⟨gs, 0, none⟩)), .p (.pointer (some ⟨gs, 3, none⟩))] [1, 2, 8, 37, 39] (by kernel_rfl) (fun _ => by kernel_rfl) (by kernel_rfl : pick _ _ = some [(1, .int .i64 clock), (2, .slice b L.length c), (8, .pointer (some ⟨gs, 0, none⟩)), (37, .pointer (some ⟨bt, 0, none⟩)), (39, .pointer (some ⟨gs, 3, none⟩))]) (trivial) ?_
            refine RP_e rfl (ef_store st13 rfl rfl rfl size_127 0 rfl rfl rfl rfl (.inr hgs)) ?_
            rintro _ w15 ⟨rfl, st16, hx17⟩
            replace st16 : St [] w w15 [(gs, 129, [.int .i64 node, .int .i64 clock, .pointer (some ⟨bm, 0, none⟩), .pointer (some ⟨bt, 0, none⟩)])] := st16
            replace hTr := hTr.ext1 hx17 (st13.get 0 rfl) (by decide) (by decide)
            refine RP_pick [1, 2, 8] (by kernel_rfl : pick _ _ = some [(1, .int .i64 clock), (2, .slice b L.length c), (8, .pointer (some ⟨gs, 0, none⟩))]) ?_
            refine RP_nil ?_
            refine n_then ?_
            refine W_seq ?_
            refine W_seq ?_
            refine W_region ?_
            refine RP_seg 3 [.p (.slice b L.length c), .p (.int .i64 ((L.length : Nat) : Int)), .p (.int .i64 0)] [1, 2, 8, 40, 41, 42] (by kernel_rfl) (fun _ => by kernel_rfl) (by kernel_rfl : pick _ _ = some [(1, .int .i64 clock), (2, .slice b L.length c), (8, .pointer (some ⟨gs, 0, none⟩)), (40, .slice b L.length c), (41, .int .i64 ((L.length : Nat) : Int)), (42, .int .i64 0)]) (trivial) ?_
            refine RP_pick [1, 2, 8, 40, 41, 42] (by kernel_rfl : pick _ _ = some [(1, .int .i64 clock), (2, .slice b L.length c), (8, .pointer (some ⟨gs, 0, none⟩)), (40, .slice b L.length c), (41, .int .i64 ((L.length : Nat) : Int)), (42, .int .i64 0)]) ?_
            refine RP_nil ?_
            refine n_then ?_
            refine W_block ?_
            refine W_loop (fun k_ m_ w_ => ∃ (i : Nat) (p : Option Addr) (jj : Int), L.length - i = k_ ∧ m_ = [(1, .int .i64 clock), (2, .slice b L.length c), (8, .pointer (some ⟨gs, 0, none⟩)), (40, .slice b L.length c), (41, .int .i64 ((L.length : Nat) : Int)), (42, .int .i64 ((i : Nat) : Int))] ∧ St [] w w_ [(gs, 129, [.int .i64 node, .int .i64 clock, .pointer (some ⟨bm, 0, none⟩), .pointer (some ⟨bt, 0, none⟩)])] ∧ Tr w_ bt bm jj p ∧ IsT w_ p (T.load (L.take i)) ∧ i ≤ L.length ∧ loadE clock (prevE L i) (L.drop i) = loadE clock none L) ⟨0, none, 0, rfl, rfl, st16, hTr, rfl, Nat.zero_le _, rfl⟩ ?_
            rintro _ _ w19 ⟨i, p, jj, rfl, rfl, st18, hTr, hT, hil, hle⟩
            refine W_seq ?_
            refine W_region ?_
            refine RP_seg 1 [.p (.bool (decide (((i : Nat) : Int) < ((L.length : Nat) : Int))))] [1, 2, 8, 40, 41, 42, 43] (by kernel_rfl) (fun _ => by kernel_rfl) (by kernel_rfl : pick _ _ = some [(1, .int .i64 clock), (2, .slice b L.length c), (8, .pointer (some ⟨gs, 0, none⟩)), (40, .slice b L.length c), (41, .int .i64 ((L.length : Nat) : Int)), (42, .int .i64 ((i : Nat) : Int)), (43, .bool (decide (((i : Nat) : Int) < ((L.length : Nat) : Int))))]) (trivial) ?_
            refine RP_pick [1, 2, 8, 40, 41, 42, 43] (by kernel_rfl : pick _ _ = some [(1, .int .i64 clock), (2, .slice b L.length c), (8, .pointer (some ⟨gs, 0, none⟩)), (40, .slice b L.length c), (41, .int .i64 ((L.length : Nat) : Int)), (42, .int .i64 ((i : Nat) : Int)), (43, .bool (decide (((i : Nat) : Int) < ((L.length : Nat) : Int))))]) ?_
            refine RP_nil ?_
            refine n_then ?_
            refine W_seq ?_
            refine W_cond rfl (fun c43_20 => ?_) (fun c43_20 => ?_)
            ·
              have c43_20p := of_decide_eq_true c43_20
              refine W_skip ?_
              refine n_then ?_
              refine W_seq ?_
              refine W_block ?_
              refine W_seq ?_
              refine W_region ?_
              refine RP_seg 1 [.p (.int .i64 ((i : Nat) : Int))] [1, 2, 8, 40, 41, 42, 44] (by kernel_rfl) (fun _ => by kernel_rfl) (by kernel_rfl : pick _ _ = some [(1, .int .i64 clock), (2, .slice b L.length c), (8, .pointer (some ⟨gs, 0, none⟩)), (40, .slice b L.length c), (41, .int .i64 ((L.length : Nat) : Int)), (42, .int .i64 ((i : Nat) : Int)), (44, .int .i64 ((i : Nat) : Int))]) (trivial) ?_
              have hlt : i < L.length := by omega
              have hL256 : L.length ≤ 256 := by omega
              obtain ⟨e, he⟩ : ∃ e, L[i]? = some e := ⟨L[i], by simp [hlt]⟩
              have hbs := hin.some_ (by rw [entCells_len]; omega)
              refine RP_q rfl (v := .pointer (some ⟨(sp b), so b + i * 5, none⟩)) (ev_indexI idxEnt rfl rfl hbs hlt) ?_
              refine RP_seg 1 [.l 61 (.pointer (some ⟨(sp b), so b + i * 5, none⟩)) (.agg #[.string e.key, .int .i64 e.c, .int .i64 e.n, .string e.val, .bool e.dead])] [1, 2, 8, 40, 41, 42, 44, 46] (by kernel_rfl) (fun _ => by kernel_rfl) (by kernel_rfl : pick _ _ = some [(1, .int .i64 clock), (2, .slice b L.length c), (8, .pointer (some ⟨gs, 0, none⟩)), (40, .slice b L.length c), (41, .int .i64 ((L.length : Nat) : Int)), (42, .int .i64 ((i : Nat) : Int)), (44, .int .i64 ((i : Nat) : Int)), (46, .agg #[.string e.key, .int .i64 e.c, .int .i64 e.n, .string e.val, .bool e.dead])]) ⟨InS.loadN agg_61 (hin.ext0 st18.ext) (entCells_at he) rfl (by decide), trivial⟩ ?_
              refine RP_e rfl (ef_alloc st18 zero_61 rfl) ?_
              rintro _ w21 ⟨g10, rfl, hg10, hg10', st22, hx23⟩
              replace st22 : St [] w w21 [(g10, 61, [.string (⟨#[]⟩ : ByteArray), .int .i64 0, .int .i64 0, .string (⟨#[]⟩ : ByteArray), .bool false]), (gs, 129, [.int .i64 node, .int .i64 clock, .pointer (some ⟨bm, 0, none⟩), .pointer (some ⟨bt, 0, none⟩)])] := st22
              replace hTr := hTr.ext hx23 (by simp)
              replace hT := hT.to hx23 (NoNode.nil _)
              refine RP_seg 1 [.p (.int .i64 ((i : Nat) : Int))] [1, 2, 8, 9, 10, 40, 41, 42, 46] (by kernel_rfl) (fun _ => by kernel_rfl) (by kernel_rfl : pick _ _ = some [(1, .int .i64 clock), (2, .slice b L.length c), (8, .pointer (some ⟨gs, 0, none⟩)), (9, .int .i64 ((i : Nat) : Int)), (10, .pointer (some ⟨g10, 0, none⟩)), (40, .slice b L.length c), (41, .int .i64 ((L.length : Nat) : Int)), (42, .int .i64 ((i : Nat) : Int)), (46, .agg #[.string e.key, .int .i64 e.c, .int .i64 e.n, .string e.val, .bool e.dead])]) (trivial) ?_
              refine RP_e rfl (ef_store st22 rfl rfl rfl size_61 0 rfl rfl rfl rfl (.inr hg10)) ?_
              rintro _ w24 ⟨rfl, st25, hx26⟩
              replace st25 : St [] w w24 [(g10, 61, [.string e.key, .int .i64 e.c, .int .i64 e.n, .string e.val, .bool e.dead]), (gs, 129, [.int .i64 node, .int .i64 clock, .pointer (some ⟨bm, 0, none⟩), .pointer (some ⟨bt, 0, none⟩)])] := st25
              replace hTr := hTr.ext1 hx26 (st22.get 0 rfl) (by decide) (by decide)
              replace hT := hT.to hx26 (NoNode.one (st22.get 0 rfl) (by decide))
              refine RP_pick [1, 2, 8, 9, 10, 40, 41, 42] (by kernel_rfl : pick _ _ = some [(1, .int .i64 clock), (2, .slice b L.length c), (8, .pointer (some ⟨gs, 0, none⟩)), (9, .int .i64 ((i : Nat) : Int)), (10, .pointer (some ⟨g10, 0, none⟩)), (40, .slice b L.length c), (41, .int .i64 ((L.length : Nat) : Int)), (42, .int .i64 ((i : Nat) : Int))]) ?_
              refine RP_nil ?_
              refine n_then ?_
              refine W_seq ?_
              refine W_seq ?_
              refine W_region ?_
              refine RP_seg 1 [.l 61 (.pointer (some ⟨g10, 0, none⟩)) (.agg #[.string e.key, .int .i64 e.c, .int .i64 e.n, .string e.val, .bool e.dead])] [1, 2, 8, 9, 10, 40, 41, 42, 47] (by kernel_rfl) (fun _ => by kernel_rfl) (by kernel_rfl : pick _ _ = some [(1, .int .i64 clock), (2, .slice b L.length c), (8, .pointer (some ⟨gs, 0, none⟩)), (9, .int .i64 ((i : Nat) : Int)), (10, .pointer (some ⟨g10, 0, none⟩)), (40, .slice b L.length c), (41, .int .i64 ((L.length : Nat) : Int)), (42, .int .i64 ((i : Nat) : Int)), (47, .agg #[.string e.key, .int .i64 e.c, .int .i64 e.n, .string e.val, .bool e.dead])]) ⟨ldN st25 agg_61 0 rfl rfl rfl, trivial⟩ ?_
              refine RP_e rfl (ef_call (k := 63) (args := [.agg #[.string e.key, .int .i64 e.c, .int .i64 e.n, .string e.val, .bool e.dead]]) (itemCheck_cr e _) body_63 (by kernel_rfl)) ?_
              rintro _ w27 ⟨_, rfl, rfl, hx29⟩
              have st28 := st25.call0 hx29
              replace hTr := hTr.ext hx29 (by simp)
              replace hT := hT.to hx29 (NoNode.nil _)
              refine RP_seg 1 [.p (.int .i64 e.check)] [1, 2, 8, 9, 10, 11, 40, 41, 42] (by kernel_rfl) (fun _ => by kernel_rfl) (by kernel_rfl : pick _ _ = some [(1, .int .i64 clock), (2, .slice b L.length c), (8, .pointer (some ⟨gs, 0, none⟩)), (9, .int .i64 ((i : Nat) : Int)), (10, .pointer (some ⟨g10, 0, none⟩)), (11, .int .i64 e.check), (40, .slice b L.length c), (41, .int .i64 ((L.length : Nat) : Int)), (42, .int .i64 ((i : Nat) : Int))]) (trivial) ?_
              refine RP_pick [1, 2, 8, 9, 10, 11, 40, 41, 42] (by kernel_rfl : pick _ _ = some [(1, .int .i64 clock), (2, .slice b L.length c), (8, .pointer (some ⟨gs, 0, none⟩)), (9, .int .i64 ((i : Nat) : Int)), (10, .pointer (some ⟨g10, 0, none⟩)), (11, .int .i64 e.check), (40, .slice b L.length c), (41, .int .i64 ((L.length : Nat) : Int)), (42, .int .i64 ((i : Nat) : Int))]) ?_
              refine RP_nil ?_
              refine n_then ?_
              refine W_block ?_
              refine W_seq ?_
              refine W_region ?_
              refine RP_seg 3 [.p (.int .i64 e.check), .p (.bool (e.check != 0)), .p (.bool (e.check != 0))] [1, 2, 8, 9, 10, 11, 40, 41, 42, 49] (by kernel_rfl) (fun _ => by kernel_rfl) (by kernel_rfl : pick _ _ = some [(1, .int .i64 clock), (2, .slice b L.length c), (8, .pointer (some ⟨gs, 0, none⟩)), (9, .int .i64 ((i : Nat) : Int)), (10, .pointer (some ⟨g10, 0, none⟩)), (11, .int .i64 e.check), (40, .slice b L.length c), (41, .int .i64 ((L.length : Nat) : Int)), (42, .int .i64 ((i : Nat) : Int)), (49, .bool (e.check != 0))]) (trivial) ?_
              refine RP_pick [1, 2, 8, 9, 10, 11, 40, 41, 42, 49] (by kernel_rfl : pick _ _ = some [(1, .int .i64 clock), (2, .slice b L.length c), (8, .pointer (some ⟨gs, 0, none⟩)), (9, .int .i64 ((i : Nat) : Int)), (10, .pointer (some ⟨g10, 0, none⟩)), (11, .int .i64 e.check), (40, .slice b L.length c), (41, .int .i64 ((L.length : Nat) : Int)), (42, .int .i64 ((i : Nat) : Int)), (49, .bool (e.check != 0))]) ?_
              refine RP_nil ?_
              refine n_then ?_
              refine W_cond rfl (fun c49_30 => ?_) (fun c49_30 => ?_)
              ·
                refine W_seq ?_
                refine W_region ?_
                refine RP_seg 3 [.p (.int .i64 e.check), .p (.pointer none), .p (.int .i64 e.check)] [6, 7] (by kernel_rfl) (fun _ => by kernel_rfl) (by kernel_rfl : pick _ _ = some [(6, .pointer none), (7, .int .i64 e.check)]) (trivial) ?_
                refine RP_pick [6, 7] (by kernel_rfl : pick _ _ = some [(6, .pointer none), (7, .int .i64 e.check)]) ?_
                refine RP_nil ?_
                refine n_then ?_
                refine W_ret ?_
                refine r_block <| r_then <| r_block <| r_then <| r_loop <| r_block <| r_then ?_
                have hok : okE clock (prevE L i) e = e.check := by unfold okE; rw [c49_30]; rfl
                have hnz : (e.check : Int) ≠ 0 := by simpa using c49_30
                have hz : loadE clock none L = e.check := by rw [← hle, loadE_drop clock L he, hok, show ((e.check : Int) != 0) = true from by simpa using hnz]; rfl
                refine ret_of (P := Tryd.prog) (fn := Tryd.f42) (m := [(6, .pointer none), (7, .int .i64 e.check)]) (w := w27) (res2 rfl (rv_tmp rfl) (rv_tmp rfl)) ?_
                -- return 5: .pointer none, .int .i64 e.check
                exact ⟨_, by (try rw [c12_1]); (try rw [c12_2]); (try rw [c12_3]); (try rw [c12_4]); (try rw [c21_5]); (try rw [c43_20]); (try rw [c49_30]); rw [hz]; rfl, st28.ext, fun _ => rfl, fun h => absurd h (by (try rw [c12_1]); (try rw [c12_2]); (try rw [c12_3]); (try rw [c12_4]); (try rw [c21_5]); (try rw [c43_20]); (try rw [c49_30]); rw [hz]; exact hnz)⟩
              ·
                refine W_seq ?_
                -- region 16 draws: [(1, 0), (1, 1), (1, 2), (1, 3), (1, 4), (1, 5), (1, 6), (1, 7), (1, 8), (1, 9), (1, 10), (1, 11), (1, 12), (1, 13)]
                refine W_regionS (fun w' => Blk w' g10 61 [.string e.key, .int .i64 e.c, .int .i64 e.n, .string e.val, .bool e.dead].toArray ∧ InS w' b (entCells L)) [(1, 0), (1, 1), (1, 2), (1, 3), (1, 4), (1, 5), (1, 6), (1, 7), (1, 8), (1, 9), (1, 10), (1, 11), (1, 12), (1, 13)] 14 (by kernel_rfl) (by kernel_rfl) ?_
                have st31 := st28.drew
                replace hTr := hTr.drew
                replace hT := hT.drew
                refine RS_seg 3 [.p (.int .i64 ((i : Nat) : Int)), .p (.bool (decide (((i : Nat) : Int) > 0))), .p (.bool (decide (((i : Nat) : Int) > 0)))] [1, 2, 8, 9, 10, 40, 41, 42, 56] (by kernel_rfl) (by kernel_rfl) (⟨st31.get 0 rfl, hin.ext0 st31.ext⟩) (by kernel_rfl) (fun _ => by kernel_rfl) (by kernel_rfl : pick _ _ = some [(1, .int .i64 clock), (2, .slice b L.length c), (8, .pointer (some ⟨gs, 0, none⟩)), (9, .int .i64 ((i : Nat) : Int)), (10, .pointer (some ⟨g10, 0, none⟩)), (40, .slice b L.length c), (41, .int .i64 ((L.length : Nat) : Int)), (42, .int .i64 ((i : Nat) : Int)), (56, .bool (decide (((i : Nat) : Int) > 0)))]) (fun _ hS => trivial) ?_
                rcases Bool.eq_false_or_eq_true (decide (((i : Nat) : Int) > 0)) with c56_32 | c56_32
                ·
                  have c56_32p := of_decide_eq_true c56_32
                  refine RS_at (m' := [(1, .int .i64 clock), (2, .slice b L.length c), (8, .pointer (some ⟨gs, 0, none⟩)), (9, .int .i64 ((i : Nat) : Int)), (10, .pointer (some ⟨g10, 0, none⟩)), (40, .slice b L.length c), (41, .int .i64 ((L.length : Nat) : Int)), (42, .int .i64 ((i : Nat) : Int)), (56, .bool true)]) (by rw [c56_32]) ?_
                  refine RS_seg 3 [.p (.slice b L.length c), .p (.int .i64 ((i : Nat) : Int)), .p (.int .i64 (IntKind.i64.wrap (((i : Nat) : Int) - 1)))] [1, 2, 8, 10, 40, 41, 42, 56, 57, 59] (by kernel_rfl) (by kernel_rfl) (⟨st31.get 0 rfl, hin.ext0 st31.ext⟩) (by kernel_rfl) (fun _ => by kernel_rfl) (by kernel_rfl : pick _ _ = some [(1, .int .i64 clock), (2, .slice b L.length c), (8, .pointer (some ⟨gs, 0, none⟩)), (10, .pointer (some ⟨g10, 0, none⟩)), (40, .slice b L.length c), (41, .int .i64 ((L.length : Nat) : Int)), (42, .int .i64 ((i : Nat) : Int)), (56, .bool true), (57, .slice b L.length c), (59, .int .i64 (IntKind.i64.wrap (((i : Nat) : Int) - 1)))]) (fun _ hS => trivial) ?_
                  refine RS_at (m' := [(1, .int .i64 clock), (2, .slice b L.length c), (8, .pointer (some ⟨gs, 0, none⟩)), (10, .pointer (some ⟨g10, 0, none⟩)), (40, .slice b L.length c), (41, .int .i64 ((L.length : Nat) : Int)), (42, .int .i64 ((i : Nat) : Int)), (56, .bool true), (57, .slice b L.length c), (59, .int .i64 (((i - 1) : Nat) : Int))]) (by rw [show IntKind.i64.wrap (((i : Nat) : Int) - 1) = ((i - 1 : Nat) : Int) by rw [wrap_in (by omega) (by omega)]; omega]) ?_
                  obtain ⟨e0, he0⟩ : ∃ e, L[i - 1]? = some e := ⟨L[i - 1], by simp⟩
                  refine RS_gq rfl rfl rfl (⟨st31.get 0 rfl, hin.ext0 st31.ext⟩) (v := .pointer (some ⟨(sp b), so b + (i - 1) * 5, none⟩)) (fun _ _ => ev_indexI idxEnt rfl rfl hbs (by omega)) ?_
                  refine RS_seg 7 [.p (.pointer (some ⟨(sp b), so b + (i - 1) * 5, none⟩)), .l 9 (.pointer (some ⟨(sp b), so b + (i - 1) * 5, none⟩)) (.string e0.key), .p (.pointer (some ⟨g10, 0, none⟩)), .l 9 (.pointer (some ⟨g10, 0, none⟩)) (.string e.key), .p (.bool (!(Op.bytesLess (e0.key).toList (e.key).toList))), .p (.bool (!(Op.bytesLess (e0.key).toList (e.key).toList))), .p (.bool (!(Op.bytesLess (e0.key).toList (e.key).toList)))] [1, 2, 8, 10, 40, 41, 42, 53] (by kernel_rfl) (by kernel_rfl) (⟨st31.get 0 rfl, hin.ext0 st31.ext⟩) (by kernel_rfl) (fun _ => by kernel_rfl) (by kernel_rfl : pick _ _ = some [(1, .int .i64 clock), (2, .slice b L.length c), (8, .pointer (some ⟨gs, 0, none⟩)), (10, .pointer (some ⟨g10, 0, none⟩)), (40, .slice b L.length c), (41, .int .i64 ((L.length : Nat) : Int)), (42, .int .i64 ((i : Nat) : Int)), (53, .bool (!(Op.bytesLess (e0.key).toList (e.key).toList)))]) (fun _ hS => ⟨(InS.load1 nagg_9 (hS.2) (entCells_0 he0 rfl)), ld1b (hS.1) nagg_9 rfl, trivial⟩) ?_
                  refine RS_pick [1, 2, 8, 10, 40, 41, 42, 53] (by kernel_rfl : pick _ _ = some [(1, .int .i64 clock), (2, .slice b L.length c), (8, .pointer (some ⟨gs, 0, none⟩)), (10, .pointer (some ⟨g10, 0, none⟩)), (40, .slice b L.length c), (41, .int .i64 ((L.length : Nat) : Int)), (42, .int .i64 ((i : Nat) : Int)), (53, .bool (!(Op.bytesLess (e0.key).toList (e.key).toList)))]) ?_
                  refine RS_nil ?_
                  refine n_then ?_
                  refine W_cond rfl (fun c53_33 => ?_) (fun c53_33 => ?_)
                  ·
                    refine W_seq ?_
                    refine W_region ?_
                    refine RP_seg 2 [.p (.pointer none), .p (.int .i64 90)] [6, 7] (by kernel_rfl) (fun _ => by kernel_rfl) (by kernel_rfl : pick _ _ = some [(6, .pointer none), (7, .int .i64 90)]) (trivial) ?_
                    refine RP_pick [6, 7] (by kernel_rfl : pick _ _ = some [(6, .pointer none), (7, .int .i64 90)]) ?_
                    refine RP_nil ?_
                    refine n_then ?_
                    refine W_ret ?_
                    refine r_block <| r_then <| r_block <| r_then <| r_loop <| r_block <| r_then ?_
                    have hp : prevE L i = some e0 := by unfold prevE; rw [if_neg (by omega)]; exact he0
                    have hok : okE clock (prevE L i) e = 90 := by unfold okE; (try rw [c49_30]); (try rw [hp]); (try dsimp only); (try rw [c53_33]); rfl
                    have hnz : (90 : Int) ≠ 0 := (by decide : (90 : Int) ≠ 0)
                    have hz : loadE clock none L = 90 := by rw [← hle, loadE_drop clock L he, hok, show ((90 : Int) != 0) = true from by simpa using hnz]; rfl
                    refine ret_of (P := Tryd.prog) (fn := Tryd.f42) (m := [(6, .pointer none), (7, .int .i64 90)]) (w := w27.drew) (res2 rfl (rv_tmp rfl) (rv_tmp rfl)) ?_
                    -- return 6: .pointer none, .int .i64 90
                    exact ⟨_, by (try rw [c12_1]); (try rw [c12_2]); (try rw [c12_3]); (try rw [c12_4]); (try rw [c21_5]); (try rw [c43_20]); (try rw [c49_30]); (try rw [c56_32]); (try rw [c53_33]); rw [hz]; rfl, st31.ext, fun _ => rfl, fun h => absurd h (by (try rw [c12_1]); (try rw [c12_2]); (try rw [c12_3]); (try rw [c12_4]); (try rw [c21_5]); (try rw [c43_20]); (try rw [c49_30]); (try rw [c56_32]); (try rw [c53_33]); rw [hz]; exact hnz)⟩
                  ·
                    refine W_seq ?_
                    refine W_region ?_
                    refine RP_seg 6 [.p (.pointer (some ⟨g10, 1, none⟩)), .p (.pointer (some ⟨g10, 1, none⟩)), .l 3 (.pointer (some ⟨g10, 1, none⟩)) (.int .i64 e.c), .p (.int .i64 clock), .p (.bool (decide (e.c > clock))), .p (.bool (decide (e.c > clock)))] [1, 2, 8, 10, 40, 41, 42, 67] (by kernel_rfl) (fun _ => by kernel_rfl) (by kernel_rfl : pick _ _ = some [(1, .int .i64 clock), (2, .slice b L.length c), (8, .pointer (some ⟨gs, 0, none⟩)), (10, .pointer (some ⟨g10, 0, none⟩)), (40, .slice b L.length c), (41, .int .i64 ((L.length : Nat) : Int)), (42, .int .i64 ((i : Nat) : Int)), (67, .bool (decide (e.c > clock)))]) ⟨ld1 st31 nagg_3 0 rfl rfl, trivial⟩ ?_
                    refine RP_pick [1, 2, 8, 10, 40, 41, 42, 67] (by kernel_rfl : pick _ _ = some [(1, .int .i64 clock), (2, .slice b L.length c), (8, .pointer (some ⟨gs, 0, none⟩)), (10, .pointer (some ⟨g10, 0, none⟩)), (40, .slice b L.length c), (41, .int .i64 ((L.length : Nat) : Int)), (42, .int .i64 ((i : Nat) : Int)), (67, .bool (decide (e.c > clock)))]) ?_
                    refine RP_nil ?_
                    refine n_then ?_
                    refine W_cond rfl (fun c67_34 => ?_) (fun c67_34 => ?_)
                    ·
                      have c67_34p := of_decide_eq_true c67_34
                      refine W_seq ?_
                      refine W_region ?_
                      refine RP_seg 2 [.p (.pointer none), .p (.int .i64 30)] [6, 7] (by kernel_rfl) (fun _ => by kernel_rfl) (by kernel_rfl : pick _ _ = some [(6, .pointer none), (7, .int .i64 30)]) (trivial) ?_
                      refine RP_pick [6, 7] (by kernel_rfl : pick _ _ = some [(6, .pointer none), (7, .int .i64 30)]) ?_
                      refine RP_nil ?_
                      refine n_then ?_
                      refine W_ret ?_
                      refine r_block <| r_then <| r_block <| r_then <| r_loop <| r_block <| r_then ?_
                      have hp : prevE L i = some e0 := by unfold prevE; rw [if_neg (by omega)]; exact he0
                      have hok : okE clock (prevE L i) e = 30 := by unfold okE; (try rw [c49_30]); (try rw [hp]); (try dsimp only); (try rw [c53_33]); (try rw [c67_34]); rfl
                      have hnz : (30 : Int) ≠ 0 := (by decide : (30 : Int) ≠ 0)
                      have hz : loadE clock none L = 30 := by rw [← hle, loadE_drop clock L he, hok, show ((30 : Int) != 0) = true from by simpa using hnz]; rfl
                      refine ret_of (P := Tryd.prog) (fn := Tryd.f42) (m := [(6, .pointer none), (7, .int .i64 30)]) (w := w27.drew) (res2 rfl (rv_tmp rfl) (rv_tmp rfl)) ?_
                      -- return 7: .pointer none, .int .i64 30
                      exact ⟨_, by (try rw [c12_1]); (try rw [c12_2]); (try rw [c12_3]); (try rw [c12_4]); (try rw [c21_5]); (try rw [c43_20]); (try rw [c49_30]); (try rw [c56_32]); (try rw [c53_33]); (try rw [c67_34]); rw [hz]; rfl, st31.ext, fun _ => rfl, fun h => absurd h (by (try rw [c12_1]); (try rw [c12_2]); (try rw [c12_3]); (try rw [c12_4]); (try rw [c21_5]); (try rw [c43_20]); (try rw [c49_30]); (try rw [c56_32]); (try rw [c53_33]); (try rw [c67_34]); rw [hz]; exact hnz)⟩
                    ·
                      have c67_34p := of_decide_eq_false c67_34
                      refine W_skip ?_
                      refine n_block ?_
                      refine n_then ?_
                      -- region 20 draws: [(1, 0), (1, 1), (1, 2), (1, 3), (1, 4), (1, 5), (1, 6), (1, 7), (2, 8), (2, 9)]
                      refine W_regionS (fun w' => Blk w' g10 61 [.string e.key, .int .i64 e.c, .int .i64 e.n, .string e.val, .bool e.dead].toArray ∧ Blk w' gs 129 [.int .i64 node, .int .i64 clock, .pointer (some ⟨bm, 0, none⟩), .pointer (some ⟨bt, 0, none⟩)].toArray) [(1, 0), (1, 1), (1, 2), (1, 3), (1, 4), (1, 5), (1, 6), (1, 7), (2, 8), (2, 9)] 10 (by kernel_rfl) (by kernel_rfl) ?_
                      have st35 := st31.drew
                      replace hTr := hTr.drew
                      replace hT := hT.drew
                      refine RS_seg 8 [.p (.pointer (some ⟨gs, 0, none⟩)), .p (.pointer (some ⟨gs, 0, none⟩)), .p (.pointer (some ⟨gs, 3, none⟩)), .l 127 (.pointer (some ⟨gs, 3, none⟩)) (.pointer (some ⟨bt, 0, none⟩)), .p (.pointer (some ⟨g10, 0, none⟩)), .l 9 (.pointer (some ⟨g10, 0, none⟩)) (.string e.key), .l 61 (.pointer (some ⟨g10, 0, none⟩)) (.agg #[.string e.key, .int .i64 e.c, .int .i64 e.n, .string e.val, .bool e.dead]), .l 61 (.pointer (some ⟨g10, 0, none⟩)) (.agg #[.string e.key, .int .i64 e.c, .int .i64 e.n, .string e.val, .bool e.dead])] [1, 2, 8, 40, 41, 42, 76, 78, 79, 80] (by kernel_rfl) (by kernel_rfl) (⟨st35.get 0 rfl, st35.get 1 rfl⟩) (by kernel_rfl) (fun _ => by kernel_rfl) (by kernel_rfl : pick _ _ = some [(1, .int .i64 clock), (2, .slice b L.length c), (8, .pointer (some ⟨gs, 0, none⟩)), (40, .slice b L.length c), (41, .int .i64 ((L.length : Nat) : Int)), (42, .int .i64 ((i : Nat) : Int)), (76, .pointer (some ⟨bt, 0, none⟩)), (78, .string e.key), (79, .agg #[.string e.key, .int .i64 e.c, .int .i64 e.n, .string e.val, .bool e.dead]), (80, .agg #[.string e.key, .int .i64 e.c, .int .i64 e.n, .string e.val, .bool e.dead])]) (fun _ hS => ⟨ld1b (hS.2) nagg_127 rfl, ld1b (hS.1) nagg_9 rfl, ldNb (hS.1) agg_61 rfl rfl, ldNb (hS.1) agg_61 rfl rfl, trivial⟩) ?_
                      have hek : e.key.size < 1000000000 := Nat.lt_of_le_of_lt (check_key (by simpa using c49_30)) (by decide)
                      refine RS_e rfl rfl (ef_call (k := 103) (args := [.agg #[.string e.key, .int .i64 e.c, .int .i64 e.n, .string e.val, .bool e.dead]]) (tallyOf_cr e (hl.ext st35.ext List.not_mem_nil) hek) body_103 (by kernel_rfl)) ?_
                      rintro _ w36 ⟨_, rfl, rfl, hx38⟩
                      have st37 := st35.call0 hx38
                      replace hTr := hTr.ext hx38 (by simp)
                      replace hT := hT.to hx38 (NoNode.nil _)
                      refine ⟨⟨st37.get 0 rfl, st37.get 1 rfl⟩, ?_⟩
                      refine RS_e rfl rfl (ef_call (k := 102) (args := [.pointer (some ⟨bt, 0, none⟩), .string e.key, .agg #[.string e.key, .int .i64 e.c, .int .i64 e.n, .string e.val, .bool e.dead], .agg #[.int .i64 e.tal.k, .int .u64 e.tal.a, .int .u64 e.tal.b]]) (treePut_cr e hTr hT (by have := T.load_size (L.take i); simp only [List.length_take] at this; omega)) body_102 (by kernel_rfl)) ?_
                      rintro _ w39 ⟨_, rfl, rfl, p2, hTr2, hT2, hx41⟩
                      have st40 := st37.call hx41 (st37.apart hTr rfl) (by simp; omega)
                      replace hTr := hTr2
                      replace hT := hT2
                      refine ⟨⟨st40.get 0 rfl, st40.get 1 rfl⟩, ?_⟩
                      refine RS_pick [1, 2, 8, 40, 41, 42] (by kernel_rfl : pick _ _ = some [(1, .int .i64 clock), (2, .slice b L.length c), (8, .pointer (some ⟨gs, 0, none⟩)), (40, .slice b L.length c), (41, .int .i64 ((L.length : Nat) : Int)), (42, .int .i64 ((i : Nat) : Int))]) ?_
                      refine RS_nil ?_
                      refine n_block ?_
                      refine n_then ?_
                      refine W_region ?_
                      refine RP_seg 2 [.p (.int .i64 (IntKind.i64.wrap (((i : Nat) : Int) + 1))), .p (.int .i64 (IntKind.i64.wrap (((i : Nat) : Int) + 1)))] [1, 2, 8, 40, 41, 42] (by kernel_rfl) (fun _ => by kernel_rfl) (by kernel_rfl : pick _ _ = some [(1, .int .i64 clock), (2, .slice b L.length c), (8, .pointer (some ⟨gs, 0, none⟩)), (40, .slice b L.length c), (41, .int .i64 ((L.length : Nat) : Int)), (42, .int .i64 (IntKind.i64.wrap (((i : Nat) : Int) + 1)))]) (trivial) ?_
                      refine RP_pick [1, 2, 8, 40, 41, 42] (by kernel_rfl : pick _ _ = some [(1, .int .i64 clock), (2, .slice b L.length c), (8, .pointer (some ⟨gs, 0, none⟩)), (40, .slice b L.length c), (41, .int .i64 ((L.length : Nat) : Int)), (42, .int .i64 (IntKind.i64.wrap (((i : Nat) : Int) + 1)))]) ?_
                      refine RP_nil ?_
                      have hp : prevE L i = some e0 := by unfold prevE; rw [if_neg (by omega)]; exact he0
                      have hok : okE clock (prevE L i) e = 0 := by unfold okE; (try rw [c49_30]); (try rw [hp]); (try dsimp only); (try rw [c53_33]); (try rw [c67_34]); rfl
                      have hz : loadE clock (prevE L (i + 1)) (L.drop (i + 1)) = loadE clock none L := by rw [← hle, loadE_drop clock L he, hok]; rfl
                      -- back 0: [(1, .int .i64 clock), (2, .slice b L.length c), (8, .pointer (some ⟨gs, 0, none⟩)), (40, .slice b L.length c), (41, .int .i64 ((L.length : Nat) : Int)), (42, .int .i64 (IntKind.i64.wrap (((i : Nat) : Int) + 1)))]
                      exact ⟨_, by omega, (i + 1), p2, _, rfl, by rw [inc_w (n := i) (by omega)], st40.sub [] (List.sublist_cons_self _ _), hTr, by rw [T.load_succ he]; exact hT, by omega, hz⟩
                ·
                  have c56_32p := of_decide_eq_false c56_32
                  refine RS_at (m' := [(1, .int .i64 clock), (2, .slice b L.length c), (8, .pointer (some ⟨gs, 0, none⟩)), (9, .int .i64 ((i : Nat) : Int)), (10, .pointer (some ⟨g10, 0, none⟩)), (40, .slice b L.length c), (41, .int .i64 ((L.length : Nat) : Int)), (42, .int .i64 ((i : Nat) : Int)), (56, .bool false)]) (by rw [c56_32]) ?_
                  refine RS_seg 11 [.no, .no, .no, .no, .no, .no, .no, .no, .no, .p (.bool false), .p (.bool false)] [1, 2, 8, 10, 40, 41, 42, 53] (by kernel_rfl) (by kernel_rfl) (⟨st31.get 0 rfl, hin.ext0 st31.ext⟩) (by kernel_rfl) (fun _ => by kernel_rfl) (by kernel_rfl : pick _ _ = some [(1, .int .i64 clock), (2, .slice b L.length c), (8, .pointer (some ⟨gs, 0, none⟩)), (10, .pointer (some ⟨g10, 0, none⟩)), (40, .slice b L.length c), (41, .int .i64 ((L.length : Nat) : Int)), (42, .int .i64 ((i : Nat) : Int)), (53, .bool false)]) (fun _ hS => trivial) ?_
                  refine RS_pick [1, 2, 8, 10, 40, 41, 42, 53] (by kernel_rfl : pick _ _ = some [(1, .int .i64 clock), (2, .slice b L.length c), (8, .pointer (some ⟨gs, 0, none⟩)), (10, .pointer (some ⟨g10, 0, none⟩)), (40, .slice b L.length c), (41, .int .i64 ((L.length : Nat) : Int)), (42, .int .i64 ((i : Nat) : Int)), (53, .bool false)]) ?_
                  refine RS_nil ?_
                  refine n_then ?_
                  refine W_false rfl ?_
                  refine W_seq ?_
                  refine W_region ?_
                  refine RP_seg 6 [.p (.pointer (some ⟨g10, 1, none⟩)), .p (.pointer (some ⟨g10, 1, none⟩)), .l 3 (.pointer (some ⟨g10, 1, none⟩)) (.int .i64 e.c), .p (.int .i64 clock), .p (.bool (decide (e.c > clock))), .p (.bool (decide (e.c > clock)))] [1, 2, 8, 10, 40, 41, 42, 67] (by kernel_rfl) (fun _ => by kernel_rfl) (by kernel_rfl : pick _ _ = some [(1, .int .i64 clock), (2, .slice b L.length c), (8, .pointer (some ⟨gs, 0, none⟩)), (10, .pointer (some ⟨g10, 0, none⟩)), (40, .slice b L.length c), (41, .int .i64 ((L.length : Nat) : Int)), (42, .int .i64 ((i : Nat) : Int)), (67, .bool (decide (e.c > clock)))]) ⟨ld1 st31 nagg_3 0 rfl rfl, trivial⟩ ?_
                  refine RP_pick [1, 2, 8, 10, 40, 41, 42, 67] (by kernel_rfl : pick _ _ = some [(1, .int .i64 clock), (2, .slice b L.length c), (8, .pointer (some ⟨gs, 0, none⟩)), (10, .pointer (some ⟨g10, 0, none⟩)), (40, .slice b L.length c), (41, .int .i64 ((L.length : Nat) : Int)), (42, .int .i64 ((i : Nat) : Int)), (67, .bool (decide (e.c > clock)))]) ?_
                  refine RP_nil ?_
                  refine n_then ?_
                  refine W_cond rfl (fun c67_42 => ?_) (fun c67_42 => ?_)
                  ·
                    have c67_42p := of_decide_eq_true c67_42
                    refine W_seq ?_
                    refine W_region ?_
                    refine RP_seg 2 [.p (.pointer none), .p (.int .i64 30)] [6, 7] (by kernel_rfl) (fun _ => by kernel_rfl) (by kernel_rfl : pick _ _ = some [(6, .pointer none), (7, .int .i64 30)]) (trivial) ?_
                    refine RP_pick [6, 7] (by kernel_rfl : pick _ _ = some [(6, .pointer none), (7, .int .i64 30)]) ?_
                    refine RP_nil ?_
                    refine n_then ?_
                    refine W_ret ?_
                    refine r_block <| r_then <| r_block <| r_then <| r_loop <| r_block <| r_then ?_
                    have hp : prevE L i = none := by unfold prevE; rw [if_pos (by omega)]
                    have hok : okE clock (prevE L i) e = 30 := by unfold okE; (try rw [c49_30]); (try rw [hp]); (try dsimp only); (try rw [c67_42]); rfl
                    have hnz : (30 : Int) ≠ 0 := (by decide : (30 : Int) ≠ 0)
                    have hz : loadE clock none L = 30 := by rw [← hle, loadE_drop clock L he, hok, show ((30 : Int) != 0) = true from by simpa using hnz]; rfl
                    refine ret_of (P := Tryd.prog) (fn := Tryd.f42) (m := [(6, .pointer none), (7, .int .i64 30)]) (w := w27.drew) (res2 rfl (rv_tmp rfl) (rv_tmp rfl)) ?_
                    -- return 8: .pointer none, .int .i64 30
                    exact ⟨_, by (try rw [c12_1]); (try rw [c12_2]); (try rw [c12_3]); (try rw [c12_4]); (try rw [c21_5]); (try rw [c43_20]); (try rw [c49_30]); (try rw [c56_32]); (try rw [c67_42]); rw [hz]; rfl, st31.ext, fun _ => rfl, fun h => absurd h (by (try rw [c12_1]); (try rw [c12_2]); (try rw [c12_3]); (try rw [c12_4]); (try rw [c21_5]); (try rw [c43_20]); (try rw [c49_30]); (try rw [c56_32]); (try rw [c67_42]); rw [hz]; exact hnz)⟩
                  ·
                    have c67_42p := of_decide_eq_false c67_42
                    refine W_skip ?_
                    refine n_block ?_
                    refine n_then ?_
                    -- region 20 draws: [(1, 0), (1, 1), (1, 2), (1, 3), (1, 4), (1, 5), (1, 6), (1, 7), (2, 8), (2, 9)]
                    refine W_regionS (fun w' => Blk w' g10 61 [.string e.key, .int .i64 e.c, .int .i64 e.n, .string e.val, .bool e.dead].toArray ∧ Blk w' gs 129 [.int .i64 node, .int .i64 clock, .pointer (some ⟨bm, 0, none⟩), .pointer (some ⟨bt, 0, none⟩)].toArray) [(1, 0), (1, 1), (1, 2), (1, 3), (1, 4), (1, 5), (1, 6), (1, 7), (2, 8), (2, 9)] 10 (by kernel_rfl) (by kernel_rfl) ?_
                    have st43 := st31.drew
                    replace hTr := hTr.drew
                    replace hT := hT.drew
                    refine RS_seg 8 [.p (.pointer (some ⟨gs, 0, none⟩)), .p (.pointer (some ⟨gs, 0, none⟩)), .p (.pointer (some ⟨gs, 3, none⟩)), .l 127 (.pointer (some ⟨gs, 3, none⟩)) (.pointer (some ⟨bt, 0, none⟩)), .p (.pointer (some ⟨g10, 0, none⟩)), .l 9 (.pointer (some ⟨g10, 0, none⟩)) (.string e.key), .l 61 (.pointer (some ⟨g10, 0, none⟩)) (.agg #[.string e.key, .int .i64 e.c, .int .i64 e.n, .string e.val, .bool e.dead]), .l 61 (.pointer (some ⟨g10, 0, none⟩)) (.agg #[.string e.key, .int .i64 e.c, .int .i64 e.n, .string e.val, .bool e.dead])] [1, 2, 8, 40, 41, 42, 76, 78, 79, 80] (by kernel_rfl) (by kernel_rfl) (⟨st43.get 0 rfl, st43.get 1 rfl⟩) (by kernel_rfl) (fun _ => by kernel_rfl) (by kernel_rfl : pick _ _ = some [(1, .int .i64 clock), (2, .slice b L.length c), (8, .pointer (some ⟨gs, 0, none⟩)), (40, .slice b L.length c), (41, .int .i64 ((L.length : Nat) : Int)), (42, .int .i64 ((i : Nat) : Int)), (76, .pointer (some ⟨bt, 0, none⟩)), (78, .string e.key), (79, .agg #[.string e.key, .int .i64 e.c, .int .i64 e.n, .string e.val, .bool e.dead]), (80, .agg #[.string e.key, .int .i64 e.c, .int .i64 e.n, .string e.val, .bool e.dead])]) (fun _ hS => ⟨ld1b (hS.2) nagg_127 rfl, ld1b (hS.1) nagg_9 rfl, ldNb (hS.1) agg_61 rfl rfl, ldNb (hS.1) agg_61 rfl rfl, trivial⟩) ?_
                    have hek : e.key.size < 1000000000 := Nat.lt_of_le_of_lt (check_key (by simpa using c49_30)) (by decide)
                    refine RS_e rfl rfl (ef_call (k := 103) (args := [.agg #[.string e.key, .int .i64 e.c, .int .i64 e.n, .string e.val, .bool e.dead]]) (tallyOf_cr e (hl.ext st43.ext List.not_mem_nil) hek) body_103 (by kernel_rfl)) ?_
                    rintro _ w44 ⟨_, rfl, rfl, hx46⟩
                    have st45 := st43.call0 hx46
                    replace hTr := hTr.ext hx46 (by simp)
                    replace hT := hT.to hx46 (NoNode.nil _)
                    refine ⟨⟨st45.get 0 rfl, st45.get 1 rfl⟩, ?_⟩
                    refine RS_e rfl rfl (ef_call (k := 102) (args := [.pointer (some ⟨bt, 0, none⟩), .string e.key, .agg #[.string e.key, .int .i64 e.c, .int .i64 e.n, .string e.val, .bool e.dead], .agg #[.int .i64 e.tal.k, .int .u64 e.tal.a, .int .u64 e.tal.b]]) (treePut_cr e hTr hT (by have := T.load_size (L.take i); simp only [List.length_take] at this; omega)) body_102 (by kernel_rfl)) ?_
                    rintro _ w47 ⟨_, rfl, rfl, p2, hTr2, hT2, hx49⟩
                    have st48 := st45.call hx49 (st45.apart hTr rfl) (by simp; omega)
                    replace hTr := hTr2
                    replace hT := hT2
                    refine ⟨⟨st48.get 0 rfl, st48.get 1 rfl⟩, ?_⟩
                    refine RS_pick [1, 2, 8, 40, 41, 42] (by kernel_rfl : pick _ _ = some [(1, .int .i64 clock), (2, .slice b L.length c), (8, .pointer (some ⟨gs, 0, none⟩)), (40, .slice b L.length c), (41, .int .i64 ((L.length : Nat) : Int)), (42, .int .i64 ((i : Nat) : Int))]) ?_
                    refine RS_nil ?_
                    refine n_block ?_
                    refine n_then ?_
                    refine W_region ?_
                    refine RP_seg 2 [.p (.int .i64 (IntKind.i64.wrap (((i : Nat) : Int) + 1))), .p (.int .i64 (IntKind.i64.wrap (((i : Nat) : Int) + 1)))] [1, 2, 8, 40, 41, 42] (by kernel_rfl) (fun _ => by kernel_rfl) (by kernel_rfl : pick _ _ = some [(1, .int .i64 clock), (2, .slice b L.length c), (8, .pointer (some ⟨gs, 0, none⟩)), (40, .slice b L.length c), (41, .int .i64 ((L.length : Nat) : Int)), (42, .int .i64 (IntKind.i64.wrap (((i : Nat) : Int) + 1)))]) (trivial) ?_
                    refine RP_pick [1, 2, 8, 40, 41, 42] (by kernel_rfl : pick _ _ = some [(1, .int .i64 clock), (2, .slice b L.length c), (8, .pointer (some ⟨gs, 0, none⟩)), (40, .slice b L.length c), (41, .int .i64 ((L.length : Nat) : Int)), (42, .int .i64 (IntKind.i64.wrap (((i : Nat) : Int) + 1)))]) ?_
                    refine RP_nil ?_
                    have hp : prevE L i = none := by unfold prevE; rw [if_pos (by omega)]
                    have hok : okE clock (prevE L i) e = 0 := by unfold okE; (try rw [c49_30]); (try rw [hp]); (try dsimp only); (try rw [c67_42]); rfl
                    have hz : loadE clock (prevE L (i + 1)) (L.drop (i + 1)) = loadE clock none L := by rw [← hle, loadE_drop clock L he, hok]; rfl
                    -- back 1: [(1, .int .i64 clock), (2, .slice b L.length c), (8, .pointer (some ⟨gs, 0, none⟩)), (40, .slice b L.length c), (41, .int .i64 ((L.length : Nat) : Int)), (42, .int .i64 (IntKind.i64.wrap (((i : Nat) : Int) + 1)))]
                    exact ⟨_, by omega, (i + 1), p2, _, rfl, by rw [inc_w (n := i) (by omega)], st48.sub [] (List.sublist_cons_self _ _), hTr, by rw [T.load_succ he]; exact hT, by omega, hz⟩
            ·
              have c43_20p := of_decide_eq_false c43_20
              refine W_exit ?_
              refine e_then <| e_loop <| e_here ?_
              refine n_then ?_
              refine W_seq ?_
              refine W_region ?_
              refine RP_seg 3 [.p (.pointer (some ⟨gs, 0, none⟩)), .p (.pointer (some ⟨gs, 0, none⟩)), .p (.int .i64 0)] [6, 7] (by kernel_rfl) (fun _ => by kernel_rfl) (by kernel_rfl : pick _ _ = some [(6, .pointer (some ⟨gs, 0, none⟩)), (7, .int .i64 0)]) (trivial) ?_
              refine RP_pick [6, 7] (by kernel_rfl : pick _ _ = some [(6, .pointer (some ⟨gs, 0, none⟩)), (7, .int .i64 0)]) ?_
              refine RP_nil ?_
              refine n_then ?_
              refine W_ret ?_
              have hiL : i = L.length := by omega
              rw [hiL, List.drop_length] at hle
              rw [hiL, List.take_length] at hT
              have hz : loadE clock none L = 0 := hle.symm
              refine ret_of (P := Tryd.prog) (fn := Tryd.f42) (m := [(6, .pointer (some ⟨gs, 0, none⟩)), (7, .int .i64 0)]) (w := w19) (res2 rfl (rv_tmp rfl) (rv_tmp rfl)) ?_
              -- return 9: .pointer (some ⟨gs, 0, none⟩), .int .i64 0
              exact ⟨_, by (try rw [c12_1]); (try rw [c12_2]); (try rw [c12_3]); (try rw [c12_4]); (try rw [c21_5]); (try rw [c43_20]); rw [hz]; rfl, st18.ext, fun h => absurd (by (try rw [c12_1]); (try rw [c12_2]); (try rw [c12_3]); (try rw [c12_4]); (try rw [c21_5]); (try rw [c43_20]); exact hz) h, fun _ => ⟨gs, bm, bt, p, jj, rfl, ⟨st18.get 0 rfl, hTr, hT⟩, hgs, hbm, hbt⟩⟩
end Go.Proofs.YtcopemgkjbaaeaaDoor
