/-
  tree.pieces, Fold.
-/
import Derived.Test.YtcopemgkjbaaeaaDoorApp
namespace Go.Proofs.YtcopemgkjbaaeaaDoor
set_option linter.all false
open Go.RowKit

theorem ownsRow.not_one {w : World} {base : Nat} {e : TypeId} {size : Nat} {v : Value} {k : Nat} {xs : List Value} (h : w.ownsRow base e size v k xs) {g : Nat} {t : TypeId} {cs : Array Value} (hb : Blk w g t cs) (ht : e ≠ t) : ∀ q ∈ ownB v, q ∉ [g] := by
  intro q hq hm
  simp only [List.mem_singleton] at hm; subst hm
  exact ownsRow.not_blk h hb ht hq
theorem wrap_in {x : Int} (h0 : -9223372036854775808 ≤ x) (h : x < 9223372036854775808) : IntKind.i64.wrap x = x := by rw [w64]; unfold wrap64; omega
def Tal.cells (t : Tal) : List Value := [.int .i64 t.k, .int .u64 t.a, .int .u64 t.b]
def talCells (l : List Tal) : List Value := l.flatMap Tal.cells
theorem talCells_append (a b : List Tal) : talCells (a ++ b) = talCells a ++ talCells b := by simp [talCells]
theorem talCells_one (a : Tal) : talCells [a] = a.cells := by simp [talCells]
def T.pieces : T → Int → Int → List Tal
  | .nil, _, _ => []
  | .node e l r, i, j => cond (decide (i ≥ j)) [] (cond (decide (i ≤ 0) && decide (j ≥ (((T.node e l r).size : Nat) : Int))) [(T.node e l r).sum]
      (l.pieces i (if ((l.size : Nat) : Int) < j then ((l.size : Nat) : Int) else j) ++ (cond (decide (i ≤ ((l.size : Nat) : Int)) && decide (((l.size : Nat) : Int) < j)) [e.tal] [] ++
        r.pieces (if 0 > i - ((l.size : Nat) : Int) - 1 then 0 else i - ((l.size : Nat) : Int) - 1) (j - ((l.size : Nat) : Int) - 1))))
theorem T.pieces_le : ∀ (t : T) (i j : Int), (t.pieces i j).length ≤ t.size
  | .nil, _, _ => Nat.le_refl _
  | .node e l r, i, j => by
    have h1 := T.pieces_le l i (if ((l.size : Nat) : Int) < j then ((l.size : Nat) : Int) else j)
    have h2 := T.pieces_le r (if 0 > i - ((l.size : Nat) : Int) - 1 then 0 else i - ((l.size : Nat) : Int) - 1) (j - ((l.size : Nat) : Int) - 1)
    unfold T.pieces
    cases decide (i ≥ j) <;> cases (decide (i ≤ 0) && decide (j ≥ (((T.node e l r).size : Nat) : Int))) <;> cases (decide (i ≤ ((l.size : Nat) : Int)) && decide (((l.size : Nat) : Int) < j)) <;>
      simp only [cond_true, cond_false, List.length_nil, List.length_append, List.length_cons, T.size] <;> omega

theorem NoNode.own {w : World} {e : TypeId} {size k base : Nat} {v : Value} {xs : List Value} (h : w.ownsRow base e size v k xs) (he : e ≠ 181) : NoNode w (ownB v) := fun _ _ hg hb => ownsRow.not_blk h hb he hg

theorem sub_w {a b : Int} (h1 : -1000000000 ≤ a) (h2 : a ≤ 1000000000) (h3 : 0 ≤ b) (h4 : b ≤ 1000000) : IntKind.i64.wrap (IntKind.i64.wrap (a - b) - 1) = a - b - 1 := by
  rw [wrap_in (x := a - b) (by omega) (by omega), wrap_in (by omega) (by omega)]
theorem pieces_cr : ∀ (t : T) {w : World} {p : Option Addr} {i j : Int} {v : Value} {k : Nat} {xs : List Value}
    (_ : IsT w p t) (_ : Acc w (ownB v) w 32 3 v k xs) (_ : 0 ≤ i) (_ : i ≤ 1000000000) (_ : -1000000000 ≤ j) (_ : j ≤ 1000000000) (_ : k + t.size ≤ 100000),
    CR Tryd.prog 114 [.pointer p, .int .i64 i, .int .i64 j, v] w fun u w' => Acc w (ownB v) w' 32 3 u (k + (t.pieces i j).length) (xs ++ talCells (t.pieces i j)) ∧ Ext (ownB v) w w'
  | .nil, w, p, i, j, v, k, xs, ht, hac, h1, h2, h3, h4, h5 => by
    have st := St.init w (ownB v)
    obtain rfl : p = none := ht
    refine CR_enter Tryd.func114 rfl Tryd.ntmps114 rfl ?_
    refine W_seq ?_
    refine W_region ?_
    refine RP_seg 1 [.p (.slice none 0 0)] [0, 1, 2, 3] (by kernel_rfl) (fun _ => by kernel_rfl) (by kernel_rfl : pick _ _ = some [(0, .pointer none), (1, .int .i64 i), (2, .int .i64 j), (3, v)]) (trivial) ?_
    refine RP_pick [0, 1, 2, 3] (by kernel_rfl : pick _ _ = some [(0, .pointer none), (1, .int .i64 i), (2, .int .i64 j), (3, v)]) ?_
    refine RP_nil ?_
    refine n_then ?_
    refine W_seq ?_
    refine W_seq ?_
    refine W_region ?_
    refine RP_seg 7 [.p (.pointer none), .p (.bool true), .p (.bool true), .no, .no, .no, .p (.bool true)] [0, 1, 2, 3, 16] (by kernel_rfl) (fun _ => by kernel_rfl) (by kernel_rfl : pick _ _ = some [(0, .pointer none), (1, .int .i64 i), (2, .int .i64 j), (3, v), (16, .bool true)]) (trivial) ?_
    refine RP_pick [0, 1, 2, 3, 16] (by kernel_rfl : pick _ _ = some [(0, .pointer none), (1, .int .i64 i), (2, .int .i64 j), (3, v), (16, .bool true)]) ?_
    refine RP_nil ?_
    refine n_then ?_
    refine W_true rfl ?_
    refine W_seq ?_
    refine W_region ?_
    refine RP_seg 2 [.p (v), .p (v)] [8] (by kernel_rfl) (fun _ => by kernel_rfl) (by kernel_rfl : pick _ _ = some [(8, v)]) (trivial) ?_
    refine RP_pick [8] (by kernel_rfl : pick _ _ = some [(8, v)]) ?_
    refine RP_nil ?_
    refine n_then ?_
    refine W_ret ?_
    refine r_then ?_
    refine ret_of (P := Tryd.prog) (fn := Tryd.f114) (m := [(8, v)]) (w := w) (res1 rfl (rv_tmp rfl)) ?_
    -- return 0: v
    exact ⟨by simpa [T.pieces, talCells] using hac, st.ext⟩
  | .node e l r, w, p, i, j, v, k, xs, ht, hac, h1, h2, h3, h4, h5 => by
    have ihl := fun {w p i j v k xs} => pieces_cr l (w := w) (p := p) (i := i) (j := j) (v := v) (k := k) (xs := xs)
    have ihr := fun {w p i j v k xs} => pieces_cr r (w := w) (p := p) (i := i) (j := j) (v := v) (k := k) (xs := xs)
    have st := St.init w (ownB v)
    have hno := NoNode.own hac.own (by decide)
    obtain ⟨gn, pl, pr, rfl, hbn, hl, hr⟩ := ht
    have hnn : gn ∉ ownB v := fun h => hno _ _ h hbn
    have hpl := T.pieces_le l i (if ((l.size : Nat) : Int) < j then ((l.size : Nat) : Int) else j)
    simp only [T.size] at h5
    have hw1 := sub_w (a := i) (b := ((l.size : Nat) : Int)) (by omega) (by omega) (by omega) (by omega)
    have hw2 := sub_w (a := j) (b := ((l.size : Nat) : Int)) (by omega) (by omega) (by omega) (by omega)
    refine CR_enter Tryd.func114 rfl Tryd.ntmps114 rfl ?_
    refine W_seq ?_
    refine W_region ?_
    refine RP_seg 1 [.p (.slice none 0 0)] [0, 1, 2, 3] (by kernel_rfl) (fun _ => by kernel_rfl) (by kernel_rfl : pick _ _ = some [(0, .pointer (some ⟨gn, 0, none⟩)), (1, .int .i64 i), (2, .int .i64 j), (3, v)]) (trivial) ?_
    refine RP_pick [0, 1, 2, 3] (by kernel_rfl : pick _ _ = some [(0, .pointer (some ⟨gn, 0, none⟩)), (1, .int .i64 i), (2, .int .i64 j), (3, v)]) ?_
    refine RP_nil ?_
    refine n_then ?_
    refine W_seq ?_
    refine W_seq ?_
    refine W_region ?_
    refine RP_seg 7 [.p (.pointer (some ⟨gn, 0, none⟩)), .p (.bool false), .p (.bool false), .p (.int .i64 i), .p (.int .i64 j), .p (.bool (decide (i ≥ j))), .p (.bool (decide (i ≥ j)))] [0, 1, 2, 3, 16] (by kernel_rfl) (fun _ => by kernel_rfl) (by kernel_rfl : pick _ _ = some [(0, .pointer (some ⟨gn, 0, none⟩)), (1, .int .i64 i), (2, .int .i64 j), (3, v), (16, .bool (decide (i ≥ j)))]) (trivial) ?_
    refine RP_pick [0, 1, 2, 3, 16] (by kernel_rfl : pick _ _ = some [(0, .pointer (some ⟨gn, 0, none⟩)), (1, .int .i64 i), (2, .int .i64 j), (3, v), (16, .bool (decide (i ≥ j)))]) ?_
    refine RP_nil ?_
    refine n_then ?_
    refine W_cond rfl (fun c16_1 => ?_) (fun c16_1 => ?_)
    ·
      have c16_1p := of_decide_eq_true c16_1
      refine W_seq ?_
      refine W_region ?_
      refine RP_seg 2 [.p (v), .p (v)] [8] (by kernel_rfl) (fun _ => by kernel_rfl) (by kernel_rfl : pick _ _ = some [(8, v)]) (trivial) ?_
      refine RP_pick [8] (by kernel_rfl : pick _ _ = some [(8, v)]) ?_
      refine RP_nil ?_
      refine n_then ?_
      refine W_ret ?_
      refine r_then ?_
      refine ret_of (P := Tryd.prog) (fn := Tryd.f114) (m := [(8, v)]) (w := w) (res1 rfl (rv_tmp rfl)) ?_
      -- return 0: v
      exact ⟨by simp only [T.pieces, c16_1, cond_true, cond_false, Bool.and_true, Bool.true_and, Bool.and_false, Bool.false_and, Bool.and_self]; simpa [talCells_append, talCells_one, Tal.cells, List.length_append, Nat.add_assoc, Nat.add_comm 1, List.append_assoc, hw1, hw2, talCells, -ge_iff_le, -gt_iff_lt] using hac, st.ext⟩
    ·
      have c16_1p := of_decide_eq_false c16_1
      refine W_skip ?_
      refine n_then ?_
      refine W_seq ?_
      refine W_seq ?_
      refine W_region ?_
      refine RP_seg 3 [.p (.int .i64 i), .p (.bool (decide (i ≤ 0))), .p (.bool (decide (i ≤ 0)))] [0, 1, 2, 3, 20] (by kernel_rfl) (fun _ => by kernel_rfl) (by kernel_rfl : pick _ _ = some [(0, .pointer (some ⟨gn, 0, none⟩)), (1, .int .i64 i), (2, .int .i64 j), (3, v), (20, .bool (decide (i ≤ 0)))]) (trivial) ?_
      rcases Bool.eq_false_or_eq_true (decide (i ≤ 0)) with c20_2 | c20_2
      ·
        have c20_2p := of_decide_eq_true c20_2
        refine RP_at (m' := [(0, .pointer (some ⟨gn, 0, none⟩)), (1, .int .i64 i), (2, .int .i64 j), (3, v), (20, .bool true)]) (by rw [c20_2]) ?_
        refine RP_seg 7 [.p (.int .i64 j), .p (.pointer (some ⟨gn, 0, none⟩)), .p (.pointer (some ⟨gn, 0, none⟩)), .p (.pointer (some ⟨gn, 14, none⟩)), .l 3 (.pointer (some ⟨gn, 14, none⟩)) (.int .i64 (((T.node e l r).size : Nat) : Int)), .p (.bool (decide (j ≥ (((T.node e l r).size : Nat) : Int)))), .p (.bool (decide (j ≥ (((T.node e l r).size : Nat) : Int))))] [0, 1, 2, 3, 27] (by kernel_rfl) (fun _ => by kernel_rfl) (by kernel_rfl : pick _ _ = some [(0, .pointer (some ⟨gn, 0, none⟩)), (1, .int .i64 i), (2, .int .i64 j), (3, v), (27, .bool (decide (j ≥ (((T.node e l r).size : Nat) : Int))))]) ⟨ld1b (hbn.ext st.ext hnn) nagg_3 rfl, trivial⟩ ?_
        refine RP_pick [0, 1, 2, 3, 27] (by kernel_rfl : pick _ _ = some [(0, .pointer (some ⟨gn, 0, none⟩)), (1, .int .i64 i), (2, .int .i64 j), (3, v), (27, .bool (decide (j ≥ (((T.node e l r).size : Nat) : Int))))]) ?_
        refine RP_nil ?_
        refine n_then ?_
        refine W_cond rfl (fun c27_3 => ?_) (fun c27_3 => ?_)
        ·
          have c27_3p := of_decide_eq_true c27_3
          refine W_seq ?_
          refine W_region ?_
          refine RP_seg 5 [.p (v), .p (.pointer (some ⟨gn, 0, none⟩)), .p (.pointer (some ⟨gn, 0, none⟩)), .p (.pointer (some ⟨gn, 9, none⟩)), .l 32 (.pointer (some ⟨gn, 9, none⟩)) (.agg #[.int .i64 ((T.node e l r).sum.k), .int .u64 ((T.node e l r).sum.a), .int .u64 ((T.node e l r).sum.b)])] [28, 32] (by kernel_rfl) (fun _ => by kernel_rfl) (by kernel_rfl : pick _ _ = some [(28, v), (32, .agg #[.int .i64 ((T.node e l r).sum.k), .int .u64 ((T.node e l r).sum.a), .int .u64 ((T.node e l r).sum.b)])]) ⟨ldNb (hbn.ext st.ext hnn) agg_32 rfl rfl, trivial⟩ ?_
          refine RP_e rfl (ef_new (t := 32) (cs := [.int .i64 ((T.node e l r).sum.k), .int .u64 ((T.node e l r).sum.a), .int .u64 ((T.node e l r).sum.b)]) (fun g => .slice (some ⟨g, 0, none⟩) 1 1) st rfl rfl (fun _ => by kernel_rfl)) ?_
          rintro _ w4 ⟨g7, rfl, hg7, hg7', st5, hx6⟩
          replace hac := hac.ext hx6 (by simp)
          refine RP_e rfl (ef_app appTal st5 hac rfl rfl 0 rfl rfl rfl (by simp only [maxLen]; omega) (by omega)) ?_
          rintro _ w8 ⟨v1, rfl, hac, st9, hx10⟩
          refine RP_seg 1 [.p (v1)] [8] (by kernel_rfl) (fun _ => by kernel_rfl) (by kernel_rfl : pick _ _ = some [(8, v1)]) (trivial) ?_
          refine RP_pick [8] (by kernel_rfl : pick _ _ = some [(8, v1)]) ?_
          refine RP_nil ?_
          refine n_then ?_
          refine W_ret ?_
          refine r_then ?_
          refine ret_of (P := Tryd.prog) (fn := Tryd.f114) (m := [(8, v1)]) (w := w8) (res1 rfl (rv_tmp rfl)) ?_
          -- return 1: v1
          exact ⟨by simp only [T.pieces, c16_1, c20_2, c27_3, cond_true, cond_false, Bool.and_true, Bool.true_and, Bool.and_false, Bool.false_and, Bool.and_self]; simpa [talCells_append, talCells_one, Tal.cells, List.length_append, Nat.add_assoc, Nat.add_comm 1, List.append_assoc, hw1, hw2, talCells, -ge_iff_le, -gt_iff_lt] using hac, st9.ext⟩
        ·
          have c27_3p := of_decide_eq_false c27_3
          refine W_skip ?_
          refine n_then ?_
          refine W_seq ?_
          refine W_region ?_
          refine RP_seg 4 [.p (.pointer (some ⟨gn, 0, none⟩)), .p (.pointer (some ⟨gn, 0, none⟩)), .p (.pointer (some ⟨gn, 12, none⟩)), .l 177 (.pointer (some ⟨gn, 12, none⟩)) (.pointer pl)] [0, 1, 2, 3, 38] (by kernel_rfl) (fun _ => by kernel_rfl) (by kernel_rfl : pick _ _ = some [(0, .pointer (some ⟨gn, 0, none⟩)), (1, .int .i64 i), (2, .int .i64 j), (3, v), (38, .pointer pl)]) ⟨ld1b (hbn.ext st.ext hnn) nagg_177 rfl, trivial⟩ ?_
          refine RP_e rfl (ef_call (k := 116) (args := [.pointer pl]) (many_cr (hl.to st.ext hno)) body_116 (by kernel_rfl)) ?_
          rintro _ _ ⟨_, rfl, rfl, rfl⟩
          refine RP_seg 1 [.p (.int .i64 ((l.size : Nat) : Int))] [0, 1, 2, 3, 9] (by kernel_rfl) (fun _ => by kernel_rfl) (by kernel_rfl : pick _ _ = some [(0, .pointer (some ⟨gn, 0, none⟩)), (1, .int .i64 i), (2, .int .i64 j), (3, v), (9, .int .i64 ((l.size : Nat) : Int))]) (trivial) ?_
          refine RP_pick [0, 1, 2, 3, 9] (by kernel_rfl : pick _ _ = some [(0, .pointer (some ⟨gn, 0, none⟩)), (1, .int .i64 i), (2, .int .i64 j), (3, v), (9, .int .i64 ((l.size : Nat) : Int))]) ?_
          refine RP_nil ?_
          refine n_then ?_
          refine W_seq ?_
          refine W_region ?_
          refine RP_seg 9 [.p (.pointer (some ⟨gn, 0, none⟩)), .p (.pointer (some ⟨gn, 0, none⟩)), .p (.pointer (some ⟨gn, 12, none⟩)), .l 177 (.pointer (some ⟨gn, 12, none⟩)) (.pointer pl), .p (.int .i64 i), .p (.int .i64 j), .p (.int .i64 ((l.size : Nat) : Int)), .p (.int .i64 (if ((l.size : Nat) : Int) < j then ((l.size : Nat) : Int) else j)), .p (v)] [0, 1, 2, 9, 43, 44, 47, 48] (by kernel_rfl) (fun _ => by kernel_rfl) (by kernel_rfl : pick _ _ = some [(0, .pointer (some ⟨gn, 0, none⟩)), (1, .int .i64 i), (2, .int .i64 j), (9, .int .i64 ((l.size : Nat) : Int)), (43, .pointer pl), (44, .int .i64 i), (47, .int .i64 (if ((l.size : Nat) : Int) < j then ((l.size : Nat) : Int) else j)), (48, v)]) ⟨ld1b (hbn.ext st.ext hnn) nagg_177 rfl, trivial⟩ ?_
          refine RP_e rfl (ef_call (k := 114) (args := [.pointer pl, .int .i64 i, .int .i64 (if ((l.size : Nat) : Int) < j then ((l.size : Nat) : Int) else j), v]) (ihl (hl.to st.ext hno) hac.self h1 h2 (by split <;> omega) (by split <;> omega) (by omega)) body_114 (by kernel_rfl)) ?_
          rintro _ w14 ⟨v2, rfl, hb1, hx16⟩
          have st15 := st.call hx16 (by simp) hac.inn
          replace hac := hac.call st hb1
          refine RP_seg 1 [.p (v2)] [0, 1, 2, 3, 9] (by kernel_rfl) (fun _ => by kernel_rfl) (by kernel_rfl : pick _ _ = some [(0, .pointer (some ⟨gn, 0, none⟩)), (1, .int .i64 i), (2, .int .i64 j), (3, v2), (9, .int .i64 ((l.size : Nat) : Int))]) (trivial) ?_
          refine RP_pick [0, 1, 2, 3, 9] (by kernel_rfl : pick _ _ = some [(0, .pointer (some ⟨gn, 0, none⟩)), (1, .int .i64 i), (2, .int .i64 j), (3, v2), (9, .int .i64 ((l.size : Nat) : Int))]) ?_
          refine RP_nil ?_
          refine n_then ?_
          refine W_seq ?_
          refine W_seq ?_
          refine W_region ?_
          refine RP_seg 4 [.p (.int .i64 i), .p (.int .i64 ((l.size : Nat) : Int)), .p (.bool (decide (i ≤ ((l.size : Nat) : Int)))), .p (.bool (decide (i ≤ ((l.size : Nat) : Int))))] [0, 1, 2, 3, 9, 53] (by kernel_rfl) (fun _ => by kernel_rfl) (by kernel_rfl : pick _ _ = some [(0, .pointer (some ⟨gn, 0, none⟩)), (1, .int .i64 i), (2, .int .i64 j), (3, v2), (9, .int .i64 ((l.size : Nat) : Int)), (53, .bool (decide (i ≤ ((l.size : Nat) : Int))))]) (trivial) ?_
          rcases Bool.eq_false_or_eq_true (decide (i ≤ ((l.size : Nat) : Int))) with c53_17 | c53_17
          ·
            have c53_17p := of_decide_eq_true c53_17
            refine RP_at (m' := [(0, .pointer (some ⟨gn, 0, none⟩)), (1, .int .i64 i), (2, .int .i64 j), (3, v2), (9, .int .i64 ((l.size : Nat) : Int)), (53, .bool true)]) (by rw [c53_17]) ?_
            refine RP_seg 4 [.p (.int .i64 ((l.size : Nat) : Int)), .p (.int .i64 j), .p (.bool (decide (((l.size : Nat) : Int) < j))), .p (.bool (decide (((l.size : Nat) : Int) < j)))] [0, 1, 2, 3, 9, 57] (by kernel_rfl) (fun _ => by kernel_rfl) (by kernel_rfl : pick _ _ = some [(0, .pointer (some ⟨gn, 0, none⟩)), (1, .int .i64 i), (2, .int .i64 j), (3, v2), (9, .int .i64 ((l.size : Nat) : Int)), (57, .bool (decide (((l.size : Nat) : Int) < j)))]) (trivial) ?_
            refine RP_pick [0, 1, 2, 3, 9, 57] (by kernel_rfl : pick _ _ = some [(0, .pointer (some ⟨gn, 0, none⟩)), (1, .int .i64 i), (2, .int .i64 j), (3, v2), (9, .int .i64 ((l.size : Nat) : Int)), (57, .bool (decide (((l.size : Nat) : Int) < j)))]) ?_
            refine RP_nil ?_
            refine n_then ?_
            refine W_cond rfl (fun c57_18 => ?_) (fun c57_18 => ?_)
            ·
              have c57_18p := of_decide_eq_true c57_18
              refine W_region ?_
              refine RP_seg 5 [.p (v2), .p (.pointer (some ⟨gn, 0, none⟩)), .p (.pointer (some ⟨gn, 0, none⟩)), .p (.pointer (some ⟨gn, 6, none⟩)), .l 32 (.pointer (some ⟨gn, 6, none⟩)) (.agg #[.int .i64 e.tal.k, .int .u64 e.tal.a, .int .u64 e.tal.b])] [0, 1, 2, 9, 58, 62] (by kernel_rfl) (fun _ => by kernel_rfl) (by kernel_rfl : pick _ _ = some [(0, .pointer (some ⟨gn, 0, none⟩)), (1, .int .i64 i), (2, .int .i64 j), (9, .int .i64 ((l.size : Nat) : Int)), (58, v2), (62, .agg #[.int .i64 e.tal.k, .int .u64 e.tal.a, .int .u64 e.tal.b])]) ⟨ldNb (hbn.ext st15.ext hnn) agg_32 rfl rfl, trivial⟩ ?_
              refine RP_e rfl (ef_new (t := 32) (cs := [.int .i64 e.tal.k, .int .u64 e.tal.a, .int .u64 e.tal.b]) (fun g => .slice (some ⟨g, 0, none⟩) 1 1) st15 rfl rfl (fun _ => by kernel_rfl)) ?_
              rintro _ w19 ⟨g22, rfl, hg22, hg22', st20, hx21⟩
              replace hac := hac.ext hx21 (by simp)
              refine RP_e rfl (ef_app appTal st20 hac rfl rfl 0 rfl rfl rfl (by simp only [maxLen]; omega) (by omega)) ?_
              rintro _ w23 ⟨v3, rfl, hac, st24, hx25⟩
              refine RP_seg 1 [.p (v3)] [0, 1, 2, 3, 9] (by kernel_rfl) (fun _ => by kernel_rfl) (by kernel_rfl : pick _ _ = some [(0, .pointer (some ⟨gn, 0, none⟩)), (1, .int .i64 i), (2, .int .i64 j), (3, v3), (9, .int .i64 ((l.size : Nat) : Int))]) (trivial) ?_
              refine RP_pick [0, 1, 2, 3, 9] (by kernel_rfl : pick _ _ = some [(0, .pointer (some ⟨gn, 0, none⟩)), (1, .int .i64 i), (2, .int .i64 j), (3, v3), (9, .int .i64 ((l.size : Nat) : Int))]) ?_
              refine RP_nil ?_
              refine n_then ?_
              refine W_seq ?_
              refine W_region ?_
              refine RP_seg 14 [.p (.pointer (some ⟨gn, 0, none⟩)), .p (.pointer (some ⟨gn, 0, none⟩)), .p (.pointer (some ⟨gn, 13, none⟩)), .l 177 (.pointer (some ⟨gn, 13, none⟩)) (.pointer pr), .p (.int .i64 i), .p (.int .i64 ((l.size : Nat) : Int)), .p (.int .i64 (IntKind.i64.wrap (i - ((l.size : Nat) : Int)))), .p (.int .i64 (IntKind.i64.wrap ((IntKind.i64.wrap (i - ((l.size : Nat) : Int))) - 1))), .p (.int .i64 (if 0 > IntKind.i64.wrap ((IntKind.i64.wrap (i - ((l.size : Nat) : Int))) - 1) then 0 else IntKind.i64.wrap ((IntKind.i64.wrap (i - ((l.size : Nat) : Int))) - 1))), .p (.int .i64 j), .p (.int .i64 ((l.size : Nat) : Int)), .p (.int .i64 (IntKind.i64.wrap (j - ((l.size : Nat) : Int)))), .p (.int .i64 (IntKind.i64.wrap ((IntKind.i64.wrap (j - ((l.size : Nat) : Int))) - 1))), .p (v3)] [68, 73, 77, 78] (by kernel_rfl) (fun _ => by kernel_rfl) (by kernel_rfl : pick _ _ = some [(68, .pointer pr), (73, .int .i64 (if 0 > IntKind.i64.wrap ((IntKind.i64.wrap (i - ((l.size : Nat) : Int))) - 1) then 0 else IntKind.i64.wrap ((IntKind.i64.wrap (i - ((l.size : Nat) : Int))) - 1))), (77, .int .i64 (IntKind.i64.wrap ((IntKind.i64.wrap (j - ((l.size : Nat) : Int))) - 1))), (78, v3)]) ⟨ld1b (hbn.ext st24.ext hnn) nagg_177 rfl, trivial⟩ ?_
              refine RP_e rfl (ef_call (k := 114) (args := [.pointer pr, .int .i64 (if 0 > IntKind.i64.wrap ((IntKind.i64.wrap (i - ((l.size : Nat) : Int))) - 1) then 0 else IntKind.i64.wrap ((IntKind.i64.wrap (i - ((l.size : Nat) : Int))) - 1)), .int .i64 (IntKind.i64.wrap ((IntKind.i64.wrap (j - ((l.size : Nat) : Int))) - 1)), v3]) (ihr (hr.to st24.ext hno) hac.self (by rw [hw1]; split <;> omega) (by rw [hw1]; split <;> omega) (by rw [hw2]; omega) (by rw [hw2]; omega) (by (try simp only [List.length_cons, List.length_nil]); omega)) body_114 (by kernel_rfl)) ?_
              rintro _ w26 ⟨v4, rfl, hb2, hx28⟩
              have st27 := st24.call hx28 (by simp) hac.inn
              replace hac := hac.call st24 hb2
              refine RP_seg 1 [.p (v4)] [8] (by kernel_rfl) (fun _ => by kernel_rfl) (by kernel_rfl : pick _ _ = some [(8, v4)]) (trivial) ?_
              refine RP_pick [8] (by kernel_rfl : pick _ _ = some [(8, v4)]) ?_
              refine RP_nil ?_
              refine n_then ?_
              refine W_ret ?_
              refine ret_of (P := Tryd.prog) (fn := Tryd.f114) (m := [(8, v4)]) (w := w26) (res1 rfl (rv_tmp rfl)) ?_
              -- return 2: v4
              exact ⟨by simp only [T.pieces, c16_1, c20_2, c27_3, c53_17, c57_18, cond_true, cond_false, Bool.and_true, Bool.true_and, Bool.and_false, Bool.false_and, Bool.and_self]; simpa [talCells_append, talCells_one, Tal.cells, List.length_append, Nat.add_assoc, Nat.add_comm 1, List.append_assoc, hw1, hw2, talCells, -ge_iff_le, -gt_iff_lt] using hac, st27.ext⟩
            ·
              have c57_18p := of_decide_eq_false c57_18
              refine W_skip ?_
              refine n_then ?_
              refine W_seq ?_
              refine W_region ?_
              refine RP_seg 14 [.p (.pointer (some ⟨gn, 0, none⟩)), .p (.pointer (some ⟨gn, 0, none⟩)), .p (.pointer (some ⟨gn, 13, none⟩)), .l 177 (.pointer (some ⟨gn, 13, none⟩)) (.pointer pr), .p (.int .i64 i), .p (.int .i64 ((l.size : Nat) : Int)), .p (.int .i64 (IntKind.i64.wrap (i - ((l.size : Nat) : Int)))), .p (.int .i64 (IntKind.i64.wrap ((IntKind.i64.wrap (i - ((l.size : Nat) : Int))) - 1))), .p (.int .i64 (if 0 > IntKind.i64.wrap ((IntKind.i64.wrap (i - ((l.size : Nat) : Int))) - 1) then 0 else IntKind.i64.wrap ((IntKind.i64.wrap (i - ((l.size : Nat) : Int))) - 1))), .p (.int .i64 j), .p (.int .i64 ((l.size : Nat) : Int)), .p (.int .i64 (IntKind.i64.wrap (j - ((l.size : Nat) : Int)))), .p (.int .i64 (IntKind.i64.wrap ((IntKind.i64.wrap (j - ((l.size : Nat) : Int))) - 1))), .p (v2)] [68, 73, 77, 78] (by kernel_rfl) (fun _ => by kernel_rfl) (by kernel_rfl : pick _ _ = some [(68, .pointer pr), (73, .int .i64 (if 0 > IntKind.i64.wrap ((IntKind.i64.wrap (i - ((l.size : Nat) : Int))) - 1) then 0 else IntKind.i64.wrap ((IntKind.i64.wrap (i - ((l.size : Nat) : Int))) - 1))), (77, .int .i64 (IntKind.i64.wrap ((IntKind.i64.wrap (j - ((l.size : Nat) : Int))) - 1))), (78, v2)]) ⟨ld1b (hbn.ext st15.ext hnn) nagg_177 rfl, trivial⟩ ?_
              refine RP_e rfl (ef_call (k := 114) (args := [.pointer pr, .int .i64 (if 0 > IntKind.i64.wrap ((IntKind.i64.wrap (i - ((l.size : Nat) : Int))) - 1) then 0 else IntKind.i64.wrap ((IntKind.i64.wrap (i - ((l.size : Nat) : Int))) - 1)), .int .i64 (IntKind.i64.wrap ((IntKind.i64.wrap (j - ((l.size : Nat) : Int))) - 1)), v2]) (ihr (hr.to st15.ext hno) hac.self (by rw [hw1]; split <;> omega) (by rw [hw1]; split <;> omega) (by rw [hw2]; omega) (by rw [hw2]; omega) (by (try simp only [List.length_cons, List.length_nil]); omega)) body_114 (by kernel_rfl)) ?_
              rintro _ w29 ⟨v4, rfl, hb2, hx31⟩
              have st30 := st15.call hx31 (by simp) hac.inn
              replace hac := hac.call st15 hb2
              refine RP_seg 1 [.p (v4)] [8] (by kernel_rfl) (fun _ => by kernel_rfl) (by kernel_rfl : pick _ _ = some [(8, v4)]) (trivial) ?_
              refine RP_pick [8] (by kernel_rfl : pick _ _ = some [(8, v4)]) ?_
              refine RP_nil ?_
              refine n_then ?_
              refine W_ret ?_
              refine ret_of (P := Tryd.prog) (fn := Tryd.f114) (m := [(8, v4)]) (w := w29) (res1 rfl (rv_tmp rfl)) ?_
              -- return 3: v4
              exact ⟨by simp only [T.pieces, c16_1, c20_2, c27_3, c53_17, c57_18, cond_true, cond_false, Bool.and_true, Bool.true_and, Bool.and_false, Bool.false_and, Bool.and_self]; simpa [talCells_append, talCells_one, Tal.cells, List.length_append, Nat.add_assoc, Nat.add_comm 1, List.append_assoc, hw1, hw2, talCells, -ge_iff_le, -gt_iff_lt] using hac, st30.ext⟩
          ·
            have c53_17p := of_decide_eq_false c53_17
            refine RP_at (m' := [(0, .pointer (some ⟨gn, 0, none⟩)), (1, .int .i64 i), (2, .int .i64 j), (3, v2), (9, .int .i64 ((l.size : Nat) : Int)), (53, .bool false)]) (by rw [c53_17]) ?_
            refine RP_seg 4 [.no, .no, .no, .p (.bool false)] [0, 1, 2, 3, 9, 57] (by kernel_rfl) (fun _ => by kernel_rfl) (by kernel_rfl : pick _ _ = some [(0, .pointer (some ⟨gn, 0, none⟩)), (1, .int .i64 i), (2, .int .i64 j), (3, v2), (9, .int .i64 ((l.size : Nat) : Int)), (57, .bool false)]) (trivial) ?_
            refine RP_pick [0, 1, 2, 3, 9, 57] (by kernel_rfl : pick _ _ = some [(0, .pointer (some ⟨gn, 0, none⟩)), (1, .int .i64 i), (2, .int .i64 j), (3, v2), (9, .int .i64 ((l.size : Nat) : Int)), (57, .bool false)]) ?_
            refine RP_nil ?_
            refine n_then ?_
            refine W_false rfl ?_
            refine W_skip ?_
            refine n_then ?_
            refine W_seq ?_
            refine W_region ?_
            refine RP_seg 14 [.p (.pointer (some ⟨gn, 0, none⟩)), .p (.pointer (some ⟨gn, 0, none⟩)), .p (.pointer (some ⟨gn, 13, none⟩)), .l 177 (.pointer (some ⟨gn, 13, none⟩)) (.pointer pr), .p (.int .i64 i), .p (.int .i64 ((l.size : Nat) : Int)), .p (.int .i64 (IntKind.i64.wrap (i - ((l.size : Nat) : Int)))), .p (.int .i64 (IntKind.i64.wrap ((IntKind.i64.wrap (i - ((l.size : Nat) : Int))) - 1))), .p (.int .i64 (if 0 > IntKind.i64.wrap ((IntKind.i64.wrap (i - ((l.size : Nat) : Int))) - 1) then 0 else IntKind.i64.wrap ((IntKind.i64.wrap (i - ((l.size : Nat) : Int))) - 1))), .p (.int .i64 j), .p (.int .i64 ((l.size : Nat) : Int)), .p (.int .i64 (IntKind.i64.wrap (j - ((l.size : Nat) : Int)))), .p (.int .i64 (IntKind.i64.wrap ((IntKind.i64.wrap (j - ((l.size : Nat) : Int))) - 1))), .p (v2)] [68, 73, 77, 78] (by kernel_rfl) (fun _ => by kernel_rfl) (by kernel_rfl : pick _ _ = some [(68, .pointer pr), (73, .int .i64 (if 0 > IntKind.i64.wrap ((IntKind.i64.wrap (i - ((l.size : Nat) : Int))) - 1) then 0 else IntKind.i64.wrap ((IntKind.i64.wrap (i - ((l.size : Nat) : Int))) - 1))), (77, .int .i64 (IntKind.i64.wrap ((IntKind.i64.wrap (j - ((l.size : Nat) : Int))) - 1))), (78, v2)]) ⟨ld1b (hbn.ext st15.ext hnn) nagg_177 rfl, trivial⟩ ?_
            refine RP_e rfl (ef_call (k := 114) (args := [.pointer pr, .int .i64 (if 0 > IntKind.i64.wrap ((IntKind.i64.wrap (i - ((l.size : Nat) : Int))) - 1) then 0 else IntKind.i64.wrap ((IntKind.i64.wrap (i - ((l.size : Nat) : Int))) - 1)), .int .i64 (IntKind.i64.wrap ((IntKind.i64.wrap (j - ((l.size : Nat) : Int))) - 1)), v2]) (ihr (hr.to st15.ext hno) hac.self (by rw [hw1]; split <;> omega) (by rw [hw1]; split <;> omega) (by rw [hw2]; omega) (by rw [hw2]; omega) (by (try simp only [List.length_cons, List.length_nil]); omega)) body_114 (by kernel_rfl)) ?_
            rintro _ w32 ⟨v4, rfl, hb2, hx34⟩
            have st33 := st15.call hx34 (by simp) hac.inn
            replace hac := hac.call st15 hb2
            refine RP_seg 1 [.p (v4)] [8] (by kernel_rfl) (fun _ => by kernel_rfl) (by kernel_rfl : pick _ _ = some [(8, v4)]) (trivial) ?_
            refine RP_pick [8] (by kernel_rfl : pick _ _ = some [(8, v4)]) ?_
            refine RP_nil ?_
            refine n_then ?_
            refine W_ret ?_
            refine ret_of (P := Tryd.prog) (fn := Tryd.f114) (m := [(8, v4)]) (w := w32) (res1 rfl (rv_tmp rfl)) ?_
            -- return 4: v4
            exact ⟨by simp only [T.pieces, c16_1, c20_2, c27_3, c53_17, cond_true, cond_false, Bool.and_true, Bool.true_and, Bool.and_false, Bool.false_and, Bool.and_self]; simpa [talCells_append, talCells_one, Tal.cells, List.length_append, Nat.add_assoc, Nat.add_comm 1, List.append_assoc, hw1, hw2, talCells, -ge_iff_le, -gt_iff_lt] using hac, st33.ext⟩
      ·
        have c20_2p := of_decide_eq_false c20_2
        refine RP_at (m' := [(0, .pointer (some ⟨gn, 0, none⟩)), (1, .int .i64 i), (2, .int .i64 j), (3, v), (20, .bool false)]) (by rw [c20_2]) ?_
        refine RP_seg 7 [.no, .no, .no, .no, .no, .no, .p (.bool false)] [0, 1, 2, 3, 27] (by kernel_rfl) (fun _ => by kernel_rfl) (by kernel_rfl : pick _ _ = some [(0, .pointer (some ⟨gn, 0, none⟩)), (1, .int .i64 i), (2, .int .i64 j), (3, v), (27, .bool false)]) (trivial) ?_
        refine RP_pick [0, 1, 2, 3, 27] (by kernel_rfl : pick _ _ = some [(0, .pointer (some ⟨gn, 0, none⟩)), (1, .int .i64 i), (2, .int .i64 j), (3, v), (27, .bool false)]) ?_
        refine RP_nil ?_
        refine n_then ?_
        refine W_false rfl ?_
        refine W_skip ?_
        refine n_then ?_
        refine W_seq ?_
        refine W_region ?_
        refine RP_seg 4 [.p (.pointer (some ⟨gn, 0, none⟩)), .p (.pointer (some ⟨gn, 0, none⟩)), .p (.pointer (some ⟨gn, 12, none⟩)), .l 177 (.pointer (some ⟨gn, 12, none⟩)) (.pointer pl)] [0, 1, 2, 3, 38] (by kernel_rfl) (fun _ => by kernel_rfl) (by kernel_rfl : pick _ _ = some [(0, .pointer (some ⟨gn, 0, none⟩)), (1, .int .i64 i), (2, .int .i64 j), (3, v), (38, .pointer pl)]) ⟨ld1b (hbn.ext st.ext hnn) nagg_177 rfl, trivial⟩ ?_
        refine RP_e rfl (ef_call (k := 116) (args := [.pointer pl]) (many_cr (hl.to st.ext hno)) body_116 (by kernel_rfl)) ?_
        rintro _ _ ⟨_, rfl, rfl, rfl⟩
        refine RP_seg 1 [.p (.int .i64 ((l.size : Nat) : Int))] [0, 1, 2, 3, 9] (by kernel_rfl) (fun _ => by kernel_rfl) (by kernel_rfl : pick _ _ = some [(0, .pointer (some ⟨gn, 0, none⟩)), (1, .int .i64 i), (2, .int .i64 j), (3, v), (9, .int .i64 ((l.size : Nat) : Int))]) (trivial) ?_
        refine RP_pick [0, 1, 2, 3, 9] (by kernel_rfl : pick _ _ = some [(0, .pointer (some ⟨gn, 0, none⟩)), (1, .int .i64 i), (2, .int .i64 j), (3, v), (9, .int .i64 ((l.size : Nat) : Int))]) ?_
        refine RP_nil ?_
        refine n_then ?_
        refine W_seq ?_
        refine W_region ?_
        refine RP_seg 9 [.p (.pointer (some ⟨gn, 0, none⟩)), .p (.pointer (some ⟨gn, 0, none⟩)), .p (.pointer (some ⟨gn, 12, none⟩)), .l 177 (.pointer (some ⟨gn, 12, none⟩)) (.pointer pl), .p (.int .i64 i), .p (.int .i64 j), .p (.int .i64 ((l.size : Nat) : Int)), .p (.int .i64 (if ((l.size : Nat) : Int) < j then ((l.size : Nat) : Int) else j)), .p (v)] [0, 1, 2, 9, 43, 44, 47, 48] (by kernel_rfl) (fun _ => by kernel_rfl) (by kernel_rfl : pick _ _ = some [(0, .pointer (some ⟨gn, 0, none⟩)), (1, .int .i64 i), (2, .int .i64 j), (9, .int .i64 ((l.size : Nat) : Int)), (43, .pointer pl), (44, .int .i64 i), (47, .int .i64 (if ((l.size : Nat) : Int) < j then ((l.size : Nat) : Int) else j)), (48, v)]) ⟨ld1b (hbn.ext st.ext hnn) nagg_177 rfl, trivial⟩ ?_
        refine RP_e rfl (ef_call (k := 114) (args := [.pointer pl, .int .i64 i, .int .i64 (if ((l.size : Nat) : Int) < j then ((l.size : Nat) : Int) else j), v]) (ihl (hl.to st.ext hno) hac.self h1 h2 (by split <;> omega) (by split <;> omega) (by omega)) body_114 (by kernel_rfl)) ?_
        rintro _ w38 ⟨v2, rfl, hb1, hx40⟩
        have st39 := st.call hx40 (by simp) hac.inn
        replace hac := hac.call st hb1
        refine RP_seg 1 [.p (v2)] [0, 1, 2, 3, 9] (by kernel_rfl) (fun _ => by kernel_rfl) (by kernel_rfl : pick _ _ = some [(0, .pointer (some ⟨gn, 0, none⟩)), (1, .int .i64 i), (2, .int .i64 j), (3, v2), (9, .int .i64 ((l.size : Nat) : Int))]) (trivial) ?_
        refine RP_pick [0, 1, 2, 3, 9] (by kernel_rfl : pick _ _ = some [(0, .pointer (some ⟨gn, 0, none⟩)), (1, .int .i64 i), (2, .int .i64 j), (3, v2), (9, .int .i64 ((l.size : Nat) : Int))]) ?_
        refine RP_nil ?_
        refine n_then ?_
        refine W_seq ?_
        refine W_seq ?_
        refine W_region ?_
        refine RP_seg 4 [.p (.int .i64 i), .p (.int .i64 ((l.size : Nat) : Int)), .p (.bool (decide (i ≤ ((l.size : Nat) : Int)))), .p (.bool (decide (i ≤ ((l.size : Nat) : Int))))] [0, 1, 2, 3, 9, 53] (by kernel_rfl) (fun _ => by kernel_rfl) (by kernel_rfl : pick _ _ = some [(0, .pointer (some ⟨gn, 0, none⟩)), (1, .int .i64 i), (2, .int .i64 j), (3, v2), (9, .int .i64 ((l.size : Nat) : Int)), (53, .bool (decide (i ≤ ((l.size : Nat) : Int))))]) (trivial) ?_
        rcases Bool.eq_false_or_eq_true (decide (i ≤ ((l.size : Nat) : Int))) with c53_41 | c53_41
        ·
          have c53_41p := of_decide_eq_true c53_41
          refine RP_at (m' := [(0, .pointer (some ⟨gn, 0, none⟩)), (1, .int .i64 i), (2, .int .i64 j), (3, v2), (9, .int .i64 ((l.size : Nat) : Int)), (53, .bool true)]) (by rw [c53_41]) ?_
          refine RP_seg 4 [.p (.int .i64 ((l.size : Nat) : Int)), .p (.int .i64 j), .p (.bool (decide (((l.size : Nat) : Int) < j))), .p (.bool (decide (((l.size : Nat) : Int) < j)))] [0, 1, 2, 3, 9, 57] (by kernel_rfl) (fun _ => by kernel_rfl) (by kernel_rfl : pick _ _ = some [(0, .pointer (some ⟨gn, 0, none⟩)), (1, .int .i64 i), (2, .int .i64 j), (3, v2), (9, .int .i64 ((l.size : Nat) : Int)), (57, .bool (decide (((l.size : Nat) : Int) < j)))]) (trivial) ?_
          refine RP_pick [0, 1, 2, 3, 9, 57] (by kernel_rfl : pick _ _ = some [(0, .pointer (some ⟨gn, 0, none⟩)), (1, .int .i64 i), (2, .int .i64 j), (3, v2), (9, .int .i64 ((l.size : Nat) : Int)), (57, .bool (decide (((l.size : Nat) : Int) < j)))]) ?_
          refine RP_nil ?_
          refine n_then ?_
          refine W_cond rfl (fun c57_42 => ?_) (fun c57_42 => ?_)
          ·
            have c57_42p := of_decide_eq_true c57_42
            refine W_region ?_
            refine RP_seg 5 [.p (v2), .p (.pointer (some ⟨gn, 0, none⟩)), .p (.pointer (some ⟨gn, 0, none⟩)), .p (.pointer (some ⟨gn, 6, none⟩)), .l 32 (.pointer (some ⟨gn, 6, none⟩)) (.agg #[.int .i64 e.tal.k, .int .u64 e.tal.a, .int .u64 e.tal.b])] [0, 1, 2, 9, 58, 62] (by kernel_rfl) (fun _ => by kernel_rfl) (by kernel_rfl : pick _ _ = some [(0, .pointer (some ⟨gn, 0, none⟩)), (1, .int .i64 i), (2, .int .i64 j), (9, .int .i64 ((l.size : Nat) : Int)), (58, v2), (62, .agg #[.int .i64 e.tal.k, .int .u64 e.tal.a, .int .u64 e.tal.b])]) ⟨ldNb (hbn.ext st39.ext hnn) agg_32 rfl rfl, trivial⟩ ?_
            refine RP_e rfl (ef_new (t := 32) (cs := [.int .i64 e.tal.k, .int .u64 e.tal.a, .int .u64 e.tal.b]) (fun g => .slice (some ⟨g, 0, none⟩) 1 1) st39 rfl rfl (fun _ => by kernel_rfl)) ?_
            rintro _ w43 ⟨g46, rfl, hg46, hg46', st44, hx45⟩
            replace hac := hac.ext hx45 (by simp)
            refine RP_e rfl (ef_app appTal st44 hac rfl rfl 0 rfl rfl rfl (by simp only [maxLen]; omega) (by omega)) ?_
            rintro _ w47 ⟨v3, rfl, hac, st48, hx49⟩
            refine RP_seg 1 [.p (v3)] [0, 1, 2, 3, 9] (by kernel_rfl) (fun _ => by kernel_rfl) (by kernel_rfl : pick _ _ = some [(0, .pointer (some ⟨gn, 0, none⟩)), (1, .int .i64 i), (2, .int .i64 j), (3, v3), (9, .int .i64 ((l.size : Nat) : Int))]) (trivial) ?_
            refine RP_pick [0, 1, 2, 3, 9] (by kernel_rfl : pick _ _ = some [(0, .pointer (some ⟨gn, 0, none⟩)), (1, .int .i64 i), (2, .int .i64 j), (3, v3), (9, .int .i64 ((l.size : Nat) : Int))]) ?_
            refine RP_nil ?_
            refine n_then ?_
            refine W_seq ?_
            refine W_region ?_
            refine RP_seg 14 [.p (.pointer (some ⟨gn, 0, none⟩)), .p (.pointer (some ⟨gn, 0, none⟩)), .p (.pointer (some ⟨gn, 13, none⟩)), .l 177 (.pointer (some ⟨gn, 13, none⟩)) (.pointer pr), .p (.int .i64 i), .p (.int .i64 ((l.size : Nat) : Int)), .p (.int .i64 (IntKind.i64.wrap (i - ((l.size : Nat) : Int)))), .p (.int .i64 (IntKind.i64.wrap ((IntKind.i64.wrap (i - ((l.size : Nat) : Int))) - 1))), .p (.int .i64 (if 0 > IntKind.i64.wrap ((IntKind.i64.wrap (i - ((l.size : Nat) : Int))) - 1) then 0 else IntKind.i64.wrap ((IntKind.i64.wrap (i - ((l.size : Nat) : Int))) - 1))), .p (.int .i64 j), .p (.int .i64 ((l.size : Nat) : Int)), .p (.int .i64 (IntKind.i64.wrap (j - ((l.size : Nat) : Int)))), .p (.int .i64 (IntKind.i64.wrap ((IntKind.i64.wrap (j - ((l.size : Nat) : Int))) - 1))), .p (v3)] [68, 73, 77, 78] (by kernel_rfl) (fun _ => by kernel_rfl) (by kernel_rfl : pick _ _ = some [(68, .pointer pr), (73, .int .i64 (if 0 > IntKind.i64.wrap ((IntKind.i64.wrap (i - ((l.size : Nat) : Int))) - 1) then 0 else IntKind.i64.wrap ((IntKind.i64.wrap (i - ((l.size : Nat) : Int))) - 1))), (77, .int .i64 (IntKind.i64.wrap ((IntKind.i64.wrap (j - ((l.size : Nat) : Int))) - 1))), (78, v3)]) ⟨ld1b (hbn.ext st48.ext hnn) nagg_177 rfl, trivial⟩ ?_
            refine RP_e rfl (ef_call (k := 114) (args := [.pointer pr, .int .i64 (if 0 > IntKind.i64.wrap ((IntKind.i64.wrap (i - ((l.size : Nat) : Int))) - 1) then 0 else IntKind.i64.wrap ((IntKind.i64.wrap (i - ((l.size : Nat) : Int))) - 1)), .int .i64 (IntKind.i64.wrap ((IntKind.i64.wrap (j - ((l.size : Nat) : Int))) - 1)), v3]) (ihr (hr.to st48.ext hno) hac.self (by rw [hw1]; split <;> omega) (by rw [hw1]; split <;> omega) (by rw [hw2]; omega) (by rw [hw2]; omega) (by (try simp only [List.length_cons, List.length_nil]); omega)) body_114 (by kernel_rfl)) ?_
            rintro _ w50 ⟨v4, rfl, hb2, hx52⟩
            have st51 := st48.call hx52 (by simp) hac.inn
            replace hac := hac.call st48 hb2
            refine RP_seg 1 [.p (v4)] [8] (by kernel_rfl) (fun _ => by kernel_rfl) (by kernel_rfl : pick _ _ = some [(8, v4)]) (trivial) ?_
            refine RP_pick [8] (by kernel_rfl : pick _ _ = some [(8, v4)]) ?_
            refine RP_nil ?_
            refine n_then ?_
            refine W_ret ?_
            refine ret_of (P := Tryd.prog) (fn := Tryd.f114) (m := [(8, v4)]) (w := w50) (res1 rfl (rv_tmp rfl)) ?_
            -- return 5: v4
            exact ⟨by simp only [T.pieces, c16_1, c20_2, c53_41, c57_42, cond_true, cond_false, Bool.and_true, Bool.true_and, Bool.and_false, Bool.false_and, Bool.and_self]; simpa [talCells_append, talCells_one, Tal.cells, List.length_append, Nat.add_assoc, Nat.add_comm 1, List.append_assoc, hw1, hw2, talCells, -ge_iff_le, -gt_iff_lt] using hac, st51.ext⟩
          ·
            have c57_42p := of_decide_eq_false c57_42
            refine W_skip ?_
            refine n_then ?_
            refine W_seq ?_
            refine W_region ?_
            refine RP_seg 14 [.p (.pointer (some ⟨gn, 0, none⟩)), .p (.pointer (some ⟨gn, 0, none⟩)), .p (.pointer (some ⟨gn, 13, none⟩)), .l 177 (.pointer (some ⟨gn, 13, none⟩)) (.pointer pr), .p (.int .i64 i), .p (.int .i64 ((l.size : Nat) : Int)), .p (.int .i64 (IntKind.i64.wrap (i - ((l.size : Nat) : Int)))), .p (.int .i64 (IntKind.i64.wrap ((IntKind.i64.wrap (i - ((l.size : Nat) : Int))) - 1))), .p (.int .i64 (if 0 > IntKind.i64.wrap ((IntKind.i64.wrap (i - ((l.size : Nat) : Int))) - 1) then 0 else IntKind.i64.wrap ((IntKind.i64.wrap (i - ((l.size : Nat) : Int))) - 1))), .p (.int .i64 j), .p (.int .i64 ((l.size : Nat) : Int)), .p (.int .i64 (IntKind.i64.wrap (j - ((l.size : Nat) : Int)))), .p (.int .i64 (IntKind.i64.wrap ((IntKind.i64.wrap (j - ((l.size : Nat) : Int))) - 1))), .p (v2)] [68, 73, 77, 78] (by kernel_rfl) (fun _ => by kernel_rfl) (by kernel_rfl : pick _ _ = some [(68, .pointer pr), (73, .int .i64 (if 0 > IntKind.i64.wrap ((IntKind.i64.wrap (i - ((l.size : Nat) : Int))) - 1) then 0 else IntKind.i64.wrap ((IntKind.i64.wrap (i - ((l.size : Nat) : Int))) - 1))), (77, .int .i64 (IntKind.i64.wrap ((IntKind.i64.wrap (j - ((l.size : Nat) : Int))) - 1))), (78, v2)]) ⟨ld1b (hbn.ext st39.ext hnn) nagg_177 rfl, trivial⟩ ?_
            refine RP_e rfl (ef_call (k := 114) (args := [.pointer pr, .int .i64 (if 0 > IntKind.i64.wrap ((IntKind.i64.wrap (i - ((l.size : Nat) : Int))) - 1) then 0 else IntKind.i64.wrap ((IntKind.i64.wrap (i - ((l.size : Nat) : Int))) - 1)), .int .i64 (IntKind.i64.wrap ((IntKind.i64.wrap (j - ((l.size : Nat) : Int))) - 1)), v2]) (ihr (hr.to st39.ext hno) hac.self (by rw [hw1]; split <;> omega) (by rw [hw1]; split <;> omega) (by rw [hw2]; omega) (by rw [hw2]; omega) (by (try simp only [List.length_cons, List.length_nil]); omega)) body_114 (by kernel_rfl)) ?_
            rintro _ w53 ⟨v4, rfl, hb2, hx55⟩
            have st54 := st39.call hx55 (by simp) hac.inn
            replace hac := hac.call st39 hb2
            refine RP_seg 1 [.p (v4)] [8] (by kernel_rfl) (fun _ => by kernel_rfl) (by kernel_rfl : pick _ _ = some [(8, v4)]) (trivial) ?_
            refine RP_pick [8] (by kernel_rfl : pick _ _ = some [(8, v4)]) ?_
            refine RP_nil ?_
            refine n_then ?_
            refine W_ret ?_
            refine ret_of (P := Tryd.prog) (fn := Tryd.f114) (m := [(8, v4)]) (w := w53) (res1 rfl (rv_tmp rfl)) ?_
            -- return 6: v4
            exact ⟨by simp only [T.pieces, c16_1, c20_2, c53_41, c57_42, cond_true, cond_false, Bool.and_true, Bool.true_and, Bool.and_false, Bool.false_and, Bool.and_self]; simpa [talCells_append, talCells_one, Tal.cells, List.length_append, Nat.add_assoc, Nat.add_comm 1, List.append_assoc, hw1, hw2, talCells, -ge_iff_le, -gt_iff_lt] using hac, st54.ext⟩
        ·
          have c53_41p := of_decide_eq_false c53_41
          refine RP_at (m' := [(0, .pointer (some ⟨gn, 0, none⟩)), (1, .int .i64 i), (2, .int .i64 j), (3, v2), (9, .int .i64 ((l.size : Nat) : Int)), (53, .bool false)]) (by rw [c53_41]) ?_
          refine RP_seg 4 [.no, .no, .no, .p (.bool false)] [0, 1, 2, 3, 9, 57] (by kernel_rfl) (fun _ => by kernel_rfl) (by kernel_rfl : pick _ _ = some [(0, .pointer (some ⟨gn, 0, none⟩)), (1, .int .i64 i), (2, .int .i64 j), (3, v2), (9, .int .i64 ((l.size : Nat) : Int)), (57, .bool false)]) (trivial) ?_
          refine RP_pick [0, 1, 2, 3, 9, 57] (by kernel_rfl : pick _ _ = some [(0, .pointer (some ⟨gn, 0, none⟩)), (1, .int .i64 i), (2, .int .i64 j), (3, v2), (9, .int .i64 ((l.size : Nat) : Int)), (57, .bool false)]) ?_
          refine RP_nil ?_
          refine n_then ?_
          refine W_false rfl ?_
          refine W_skip ?_
          refine n_then ?_
          refine W_seq ?_
          refine W_region ?_
          refine RP_seg 14 [.p (.pointer (some ⟨gn, 0, none⟩)), .p (.pointer (some ⟨gn, 0, none⟩)), .p (.pointer (some ⟨gn, 13, none⟩)), .l 177 (.pointer (some ⟨gn, 13, none⟩)) (.pointer pr), .p (.int .i64 i), .p (.int .i64 ((l.size : Nat) : Int)), .p (.int .i64 (IntKind.i64.wrap (i - ((l.size : Nat) : Int)))), .p (.int .i64 (IntKind.i64.wrap ((IntKind.i64.wrap (i - ((l.size : Nat) : Int))) - 1))), .p (.int .i64 (if 0 > IntKind.i64.wrap ((IntKind.i64.wrap (i - ((l.size : Nat) : Int))) - 1) then 0 else IntKind.i64.wrap ((IntKind.i64.wrap (i - ((l.size : Nat) : Int))) - 1))), .p (.int .i64 j), .p (.int .i64 ((l.size : Nat) : Int)), .p (.int .i64 (IntKind.i64.wrap (j - ((l.size : Nat) : Int)))), .p (.int .i64 (IntKind.i64.wrap ((IntKind.i64.wrap (j - ((l.size : Nat) : Int))) - 1))), .p (v2)] [68, 73, 77, 78] (by kernel_rfl) (fun _ => by kernel_rfl) (by kernel_rfl : pick _ _ = some [(68, .pointer pr), (73, .int .i64 (if 0 > IntKind.i64.wrap ((IntKind.i64.wrap (i - ((l.size : Nat) : Int))) - 1) then 0 else IntKind.i64.wrap ((IntKind.i64.wrap (i - ((l.size : Nat) : Int))) - 1))), (77, .int .i64 (IntKind.i64.wrap ((IntKind.i64.wrap (j - ((l.size : Nat) : Int))) - 1))), (78, v2)]) ⟨ld1b (hbn.ext st39.ext hnn) nagg_177 rfl, trivial⟩ ?_
          refine RP_e rfl (ef_call (k := 114) (args := [.pointer pr, .int .i64 (if 0 > IntKind.i64.wrap ((IntKind.i64.wrap (i - ((l.size : Nat) : Int))) - 1) then 0 else IntKind.i64.wrap ((IntKind.i64.wrap (i - ((l.size : Nat) : Int))) - 1)), .int .i64 (IntKind.i64.wrap ((IntKind.i64.wrap (j - ((l.size : Nat) : Int))) - 1)), v2]) (ihr (hr.to st39.ext hno) hac.self (by rw [hw1]; split <;> omega) (by rw [hw1]; split <;> omega) (by rw [hw2]; omega) (by rw [hw2]; omega) (by (try simp only [List.length_cons, List.length_nil]); omega)) body_114 (by kernel_rfl)) ?_
          rintro _ w56 ⟨v4, rfl, hb2, hx58⟩
          have st57 := st39.call hx58 (by simp) hac.inn
          replace hac := hac.call st39 hb2
          refine RP_seg 1 [.p (v4)] [8] (by kernel_rfl) (fun _ => by kernel_rfl) (by kernel_rfl : pick _ _ = some [(8, v4)]) (trivial) ?_
          refine RP_pick [8] (by kernel_rfl : pick _ _ = some [(8, v4)]) ?_
          refine RP_nil ?_
          refine n_then ?_
          refine W_ret ?_
          refine ret_of (P := Tryd.prog) (fn := Tryd.f114) (m := [(8, v4)]) (w := w56) (res1 rfl (rv_tmp rfl)) ?_
          -- return 7: v4
          exact ⟨by simp only [T.pieces, c16_1, c20_2, c53_41, cond_true, cond_false, Bool.and_true, Bool.true_and, Bool.and_false, Bool.false_and, Bool.and_self]; simpa [talCells_append, talCells_one, Tal.cells, List.length_append, Nat.add_assoc, Nat.add_comm 1, List.append_assoc, hw1, hw2, talCells, -ge_iff_le, -gt_iff_lt] using hac, st57.ext⟩
end Go.Proofs.YtcopemgkjbaaeaaDoor
