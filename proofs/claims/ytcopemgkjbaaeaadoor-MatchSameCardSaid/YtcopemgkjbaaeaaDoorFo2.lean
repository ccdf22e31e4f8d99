/-
  tree.Fold.
-/
import Derived.Test.YtcopemgkjbaaeaaDoorFo1
namespace Go.Proofs.YtcopemgkjbaaeaaDoor
set_option linter.all false
open Go.RowKit

def foldTal : List Tal → Tal
  | [] => .zero
  | s :: l => l.foldl Tal.join s
theorem foldTal_one {l : List Tal} {s : Tal} (h : l[0]? = some s) : foldTal (l.take 1) = s := by
  cases l with
  | nil => simp at h
  | cons a l => simp at h; simp [foldTal, h]
theorem foldTal_succ {l : List Tal} {s : Tal} {n : Nat} (h : l[n]? = some s) (hn : 0 < n) : foldTal (l.take (n + 1)) = (foldTal (l.take n)).join s := by
  cases l with
  | nil => simp at h
  | cons a l =>
    obtain ⟨n, rfl⟩ : ∃ k, n = k + 1 := ⟨n - 1, by omega⟩
    simp only [List.getElem?_cons_succ] at h
    simp only [List.take_succ_cons, foldTal]
    rw [List.take_succ, h]
    simp
theorem addj_succ (j : Int) (n : Nat) (hn : 0 < n) : addj j (n + 1 - 1) = IntKind.i64.wrap (addj j (n - 1) + 1) := by
  obtain ⟨n, rfl⟩ : ∃ k, n = k + 1 := ⟨n - 1, by omega⟩
  show addj j (n + 1) = IntKind.i64.wrap (addj j n + 1)
  rw [← addj_add n j 1]; rfl
theorem inc_w {n : Nat} (h : n < 1000000000) : IntKind.i64.wrap (((n : Nat) : Int) + 1) = ((n + 1 : Nat) : Int) := by rw [wrap_in (by omega) (by omega)]; omega
theorem talCells_at : ∀ {l : List Tal} {s : Tal} {n : Nat}, l[n]? = some s → ((talCells l).drop (n * 3)).take 3 = s.cells
  | [], _, _, h => by simp at h
  | a :: l, s, 0, h => by simp at h; subst h; simp [talCells, Tal.cells]
  | a :: l, s, n + 1, h => by
    have ih := talCells_at (l := l) (s := s) (n := n) (by simpa using h)
    rw [← ih]
    simp only [talCells, List.flatMap_cons, Tal.cells]
    rw [show (n + 1) * 3 = 3 + n * 3 from by omega, ← List.drop_drop]
    rfl
def T.fold (t : T) (i j : Int) : Tal := foldTal (t.pieces (if 0 > i then 0 else i) (if ((t.size : Nat) : Int) < j then ((t.size : Nat) : Int) else j))
def T.foldJ (t : T) (i j : Int) : Nat := (t.pieces (if 0 > i then 0 else i) (if ((t.size : Nat) : Int) < j then ((t.size : Nat) : Int) else j)).length - 1


theorem fold_cr {w : World} {bt bm : Nat} {j : Int} {p : Option Addr} {t : T} (i0 j0 : Int) (hT : Tr w bt bm j p) (ht : IsT w p t) (h1 : i0 ≤ 1000000000) (h2 : -1000000000 ≤ j0) (hs : t.size ≤ 10000) :
    CR Tryd.prog 68 [.pointer (some ⟨bt, 0, none⟩), .int .i64 i0, .int .i64 j0] w fun v w' => v = (t.fold i0 j0).v ∧ Tr w' bt bm (addj j (t.foldJ i0 j0)) p ∧ Ext [bm] w w' := by
  have hnt : bt ∉ [bm] := by simpa using hT.ne
  have hno := NoNode.meter hT.m
  have st := (St.init w [bm]).add hT.m (by simp)
  have htb := hT.t
  unfold T.fold T.foldJ
  refine CR_enter Tryd.func68 rfl Tryd.ntmps68 rfl ?_
  refine W_seq ?_
  refine W_region ?_
  refine RP_e rfl (ef_alloc st zero_32 rfl) ?_
  rintro _ w1 ⟨g6, rfl, hg6, hg6', st2, hx3⟩
  replace st2 : St [bm] w w1 [(g6, 32, [.int .i64 0, .int .u64 0, .int .u64 0]), (bm, 205, [.int .i64 j])] := st2
  refine RP_pick [0, 1, 2, 6] (by kernel_rfl : pick _ _ = some [(0, .pointer (some ⟨bt, 0, none⟩)), (1, .int .i64 i0), (2, .int .i64 j0), (6, .pointer (some ⟨g6, 0, none⟩))]) ?_
  refine RP_nil ?_
  refine n_then ?_
  refine W_seq ?_
  refine W_region ?_
  refine RP_seg 4 [.p (.pointer (some ⟨bt, 0, none⟩)), .p (.pointer (some ⟨bt, 0, none⟩)), .p (.pointer (some ⟨bt, 0, none⟩)), .l 32 (.pointer (some ⟨bt, 0, none⟩)) (.agg #[.int .i64 0, .int .u64 0, .int .u64 0])] [0, 1, 2, 6, 13] (by kernel_rfl) (fun _ => by kernel_rfl) (by kernel_rfl : pick _ _ = some [(0, .pointer (some ⟨bt, 0, none⟩)), (1, .int .i64 i0), (2, .int .i64 j0), (6, .pointer (some ⟨g6, 0, none⟩)), (13, .agg #[.int .i64 0, .int .u64 0, .int .u64 0])]) ⟨ldNb (htb.ext st2.ext hnt) agg_32 rfl rfl, trivial⟩ ?_
  refine RP_e rfl (ef_alloc st2 zero_32 rfl) ?_
  rintro _ w4 ⟨g7, rfl, hg7, hg7', st5, hx6⟩
  replace st5 : St [bm] w w4 [(g7, 32, [.int .i64 0, .int .u64 0, .int .u64 0]), (g6, 32, [.int .i64 0, .int .u64 0, .int .u64 0]), (bm, 205, [.int .i64 j])] := st5
  refine RP_e rfl (ef_store st5 rfl rfl rfl size_32 0 rfl rfl rfl rfl (.inr hg7)) ?_
  rintro _ w7 ⟨rfl, st8, hx9⟩
  replace st8 : St [bm] w w7 [(g7, 32, [.int .i64 0, .int .u64 0, .int .u64 0]), (g6, 32, [.int .i64 0, .int .u64 0, .int .u64 0]), (bm, 205, [.int .i64 j])] := st8
  refine RP_pick [0, 1, 2, 6, 7] (by kernel_rfl : pick _ _ = some [(0, .pointer (some ⟨bt, 0, none⟩)), (1, .int .i64 i0), (2, .int .i64 j0), (6, .pointer (some ⟨g6, 0, none⟩)), (7, .pointer (some ⟨g7, 0, none⟩))]) ?_
  refine RP_nil ?_
  refine n_then ?_
  refine W_seq ?_
  refine W_seq ?_
  -- region 2 draws: [(1, 0), (1, 1), (1, 2), (1, 3), (1, 4), (1, 5), (1, 6), (1, 7), (1, 12), (2, 8), (1, 9), (2, 10), (1, 11)]
  refine W_regionS (fun w' => Blk w' bt 179 [.int .i64 0, .int .u64 0, .int .u64 0, .func (.func 101) #[.pointer (some ⟨bm, 0, none⟩)] #[], .pointer p].toArray) [(1, 0), (1, 1), (1, 2), (1, 3), (1, 4), (1, 5), (1, 6), (1, 7), (1, 12), (2, 8), (1, 9), (2, 10), (1, 11)] 13 (by kernel_rfl) (by kernel_rfl) ?_
  have st10 := st8.drew
  refine RS_seg 9 [.p (.pointer (some ⟨bt, 0, none⟩)), .p (.pointer (some ⟨bt, 0, none⟩)), .p (.pointer (some ⟨bt, 4, none⟩)), .l 177 (.pointer (some ⟨bt, 4, none⟩)) (.pointer p), .p (.int .i64 i0), .p (.int .i64 (if 0 > i0 then 0 else i0)), .p (.int .i64 j0), .p (.pointer (some ⟨bt, 0, none⟩)), .p (.int .i64 0)] [0, 6, 7, 17, 19, 20, 21, 26] (by kernel_rfl) (by kernel_rfl) (htb.ext st10.ext hnt) (by kernel_rfl) (fun _ => by kernel_rfl) (by kernel_rfl : pick _ _ = some [(0, .pointer (some ⟨bt, 0, none⟩)), (6, .pointer (some ⟨g6, 0, none⟩)), (7, .pointer (some ⟨g7, 0, none⟩)), (17, .pointer p), (19, .int .i64 (if 0 > i0 then 0 else i0)), (20, .int .i64 j0), (21, .pointer (some ⟨bt, 0, none⟩)), (26, .int .i64 0)]) (fun _ hS => ⟨ld1b (hS) nagg_177 rfl, trivial⟩) ?_
  refine RS_e rfl rfl (ef_call (k := 111) (args := [.pointer (some ⟨bt, 0, none⟩)]) (len_cr ⟨htb.ext st10.ext hnt, st10.get 2 rfl⟩ (ht.to st10.ext hno)) body_111 (by kernel_rfl)) ?_
  rintro _ _ ⟨_, rfl, rfl, rfl⟩
  refine ⟨htb.ext st10.ext hnt, ?_⟩
  refine RS_seg 1 [.p (.int .i64 (if ((t.size : Nat) : Int) < j0 then ((t.size : Nat) : Int) else j0))] [0, 6, 7, 17, 19, 23, 26] (by kernel_rfl) (by kernel_rfl) (htb.ext st10.ext hnt) (by kernel_rfl) (fun _ => by kernel_rfl) (by kernel_rfl : pick _ _ = some [(0, .pointer (some ⟨bt, 0, none⟩)), (6, .pointer (some ⟨g6, 0, none⟩)), (7, .pointer (some ⟨g7, 0, none⟩)), (17, .pointer p), (19, .int .i64 (if 0 > i0 then 0 else i0)), (23, .int .i64 (if ((t.size : Nat) : Int) < j0 then ((t.size : Nat) : Int) else j0)), (26, .int .i64 0)]) (fun _ hS => trivial) ?_
  refine RS_e rfl rfl (ef_call (k := 114) (args := [.pointer p, .int .i64 (if 0 > i0 then 0 else i0), .int .i64 (if ((t.size : Nat) : Int) < j0 then ((t.size : Nat) : Int) else j0), .slice none 0 0]) (pieces_cr t (ht.to st10.ext hno) (Acc.nil _ _ _ _ _) (by split <;> omega) (by split <;> omega) (by split <;> omega) (by split <;> omega) (by omega)) body_114 (by kernel_rfl)) ?_
  rintro _ w14 ⟨v1, rfl, hb1, hx16⟩
  have st15 := st10.call0 hx16
  have hac := (Acc.nil _ _ _ _ _).call st10 hb1
  have h7 : ∀ q ∈ ownB v1, g7 < q := fun q hq => (hb1.inn q hq).elim (by simp [ownB, Value.ownBlock]) fun h => Nat.lt_of_lt_of_le (st10.lt 0 rfl) h
  have h6 : ∀ q ∈ ownB v1, g6 < q := fun q hq => (hb1.inn q hq).elim (by simp [ownB, Value.ownBlock]) fun h => Nat.lt_of_lt_of_le (st10.lt 1 rfl) h
  clear hb1
  have hpl := T.pieces_le t (if 0 > i0 then 0 else i0) (if ((t.size : Nat) : Int) < j0 then ((t.size : Nat) : Int) else j0)
  simp only [Nat.zero_add, List.nil_append] at hac
  generalize hL : (t.pieces (if 0 > i0 then 0 else i0) (if ((t.size : Nat) : Int) < j0 then ((t.size : Nat) : Int) else j0)) = L at *
  obtain ⟨b, c, rfl⟩ := ownsRow.form' hac.own
  refine ⟨htb.ext st15.ext hnt, ?_⟩
  refine RS_seg 1 [.p (.int .i64 (((L.length) : Nat) : Int))] [0, 6, 7, 24, 25, 26] (by kernel_rfl) (by kernel_rfl) (htb.ext st15.ext hnt) (by kernel_rfl) (fun _ => by kernel_rfl) (by kernel_rfl : pick _ _ = some [(0, .pointer (some ⟨bt, 0, none⟩)), (6, .pointer (some ⟨g6, 0, none⟩)), (7, .pointer (some ⟨g7, 0, none⟩)), (24, .slice b (L.length) c), (25, .int .i64 (((L.length) : Nat) : Int)), (26, .int .i64 0)]) (fun _ hS => trivial) ?_
  refine RS_pick [0, 6, 7, 24, 25, 26] (by kernel_rfl : pick _ _ = some [(0, .pointer (some ⟨bt, 0, none⟩)), (6, .pointer (some ⟨g6, 0, none⟩)), (7, .pointer (some ⟨g7, 0, none⟩)), (24, .slice b (L.length) c), (25, .int .i64 (((L.length) : Nat) : Int)), (26, .int .i64 0)]) ?_
  refine RS_nil ?_
  refine n_then ?_
  refine W_block ?_
  refine W_loop (fun k_ m_ w_ => ∃ (n : Nat) (o : Tal) (jj : Int), L.length - n = k_ ∧ m_ = [(0, .pointer (some ⟨bt, 0, none⟩)), (6, .pointer (some ⟨g6, 0, none⟩)), (7, .pointer (some ⟨g7, 0, none⟩)), (24, .slice b (L.length) c), (25, .int .i64 (((L.length) : Nat) : Int)), (26, .int .i64 ((n : Nat) : Int))] ∧ St [bm] w w_ [(g7, 32, [.int .i64 o.k, .int .u64 o.a, .int .u64 o.b]), (g6, 32, [.int .i64 0, .int .u64 0, .int .u64 0]), (bm, 205, [.int .i64 jj])] ∧ Acc w [bm] w_ 32 3 (.slice b L.length c) L.length (talCells L) ∧ n ≤ L.length ∧ o = foldTal (L.take n) ∧ jj = addj j (n - 1)) ⟨0, Tal.zero, j, rfl, rfl, st15, hac, by omega, rfl, rfl⟩ ?_
  rintro _ _ w18 ⟨n, o, jj, rfl, rfl, st17, hac, hnl, ho, hj⟩
  refine W_seq ?_
  refine W_region ?_
  refine RP_seg 1 [.p (.bool (decide (((n : Nat) : Int) < (((L.length) : Nat) : Int))))] [0, 6, 7, 24, 25, 26, 27] (by kernel_rfl) (fun _ => by kernel_rfl) (by kernel_rfl : pick _ _ = some [(0, .pointer (some ⟨bt, 0, none⟩)), (6, .pointer (some ⟨g6, 0, none⟩)), (7, .pointer (some ⟨g7, 0, none⟩)), (24, .slice b (L.length) c), (25, .int .i64 (((L.length) : Nat) : Int)), (26, .int .i64 ((n : Nat) : Int)), (27, .bool (decide (((n : Nat) : Int) < (((L.length) : Nat) : Int))))]) (trivial) ?_
  refine RP_pick [0, 6, 7, 24, 25, 26, 27] (by kernel_rfl : pick _ _ = some [(0, .pointer (some ⟨bt, 0, none⟩)), (6, .pointer (some ⟨g6, 0, none⟩)), (7, .pointer (some ⟨g7, 0, none⟩)), (24, .slice b (L.length) c), (25, .int .i64 (((L.length) : Nat) : Int)), (26, .int .i64 ((n : Nat) : Int)), (27, .bool (decide (((n : Nat) : Int) < (((L.length) : Nat) : Int))))]) ?_
  refine RP_nil ?_
  refine n_then ?_
  refine W_seq ?_
  refine W_cond rfl (fun c27_19 => ?_) (fun c27_19 => ?_)
  ·
    have c27_19p := of_decide_eq_true c27_19
    refine W_skip ?_
    refine n_then ?_
    refine W_seq ?_
    refine W_block ?_
    refine W_seq ?_
    refine W_region ?_
    refine RP_seg 1 [.p (.int .i64 ((n : Nat) : Int))] [0, 6, 7, 24, 25, 26, 28] (by kernel_rfl) (fun _ => by kernel_rfl) (by kernel_rfl : pick _ _ = some [(0, .pointer (some ⟨bt, 0, none⟩)), (6, .pointer (some ⟨g6, 0, none⟩)), (7, .pointer (some ⟨g7, 0, none⟩)), (24, .slice b (L.length) c), (25, .int .i64 (((L.length) : Nat) : Int)), (26, .int .i64 ((n : Nat) : Int)), (28, .int .i64 ((n : Nat) : Int))]) (trivial) ?_
    have hlt : n < L.length := by omega
    have hol := ownsRow.lt hac.own
    obtain ⟨s, hs⟩ : ∃ s, L[n]? = some s := ⟨L[n], by simp [hlt]⟩
    refine RP_q rfl (v := .pointer (some ⟨(sp b), n * 3, none⟩)) (ev_indexN idxTal rfl rfl hac.own hlt) ?_
    refine RP_seg 1 [.l 32 (.pointer (some ⟨(sp b), n * 3, none⟩)) (.agg #[.int .i64 s.k, .int .u64 s.a, .int .u64 s.b])] [0, 6, 7, 24, 25, 26, 28, 30] (by kernel_rfl) (fun _ => by kernel_rfl) (by kernel_rfl : pick _ _ = some [(0, .pointer (some ⟨bt, 0, none⟩)), (6, .pointer (some ⟨g6, 0, none⟩)), (7, .pointer (some ⟨g7, 0, none⟩)), (24, .slice b (L.length) c), (25, .int .i64 (((L.length) : Nat) : Int)), (26, .int .i64 ((n : Nat) : Int)), (28, .int .i64 ((n : Nat) : Int)), (30, .agg #[.int .i64 s.k, .int .u64 s.a, .int .u64 s.b])]) ⟨ownsRow.load agg_32 hac.own (talCells_at hs) rfl (by decide), trivial⟩ ?_
    refine RP_e rfl (ef_alloc st17 zero_32 rfl) ?_
    rintro _ w20 ⟨g9, rfl, hg9, hg9', st21, hx22⟩
    replace st21 : St [bm] w w20 [(g9, 32, [.int .i64 0, .int .u64 0, .int .u64 0]), (g7, 32, [.int .i64 o.k, .int .u64 o.a, .int .u64 o.b]), (g6, 32, [.int .i64 0, .int .u64 0, .int .u64 0]), (bm, 205, [.int .i64 jj])] := st21
    replace hac := hac.ext hx22 (by simp)
    refine RP_seg 1 [.p (.int .i64 ((n : Nat) : Int))] [0, 6, 7, 8, 9, 24, 25, 26, 30] (by kernel_rfl) (fun _ => by kernel_rfl) (by kernel_rfl : pick _ _ = some [(0, .pointer (some ⟨bt, 0, none⟩)), (6, .pointer (some ⟨g6, 0, none⟩)), (7, .pointer (some ⟨g7, 0, none⟩)), (8, .int .i64 ((n : Nat) : Int)), (9, .pointer (some ⟨g9, 0, none⟩)), (24, .slice b (L.length) c), (25, .int .i64 (((L.length) : Nat) : Int)), (26, .int .i64 ((n : Nat) : Int)), (30, .agg #[.int .i64 s.k, .int .u64 s.a, .int .u64 s.b])]) (trivial) ?_
    refine RP_e rfl (ef_store st21 rfl rfl rfl size_32 0 rfl rfl rfl rfl (.inr hg9)) ?_
    rintro _ w23 ⟨rfl, st24, hx25⟩
    replace st24 : St [bm] w w23 [(g9, 32, [.int .i64 s.k, .int .u64 s.a, .int .u64 s.b]), (g7, 32, [.int .i64 o.k, .int .u64 o.a, .int .u64 o.b]), (g6, 32, [.int .i64 0, .int .u64 0, .int .u64 0]), (bm, 205, [.int .i64 jj])] := st24
    replace hac := hac.ext hx25 (fun q hq hm => by simp only [List.mem_singleton] at hm; have := (hol q hq).1; omega)
    refine RP_pick [0, 6, 7, 8, 9, 24, 25, 26] (by kernel_rfl : pick _ _ = some [(0, .pointer (some ⟨bt, 0, none⟩)), (6, .pointer (some ⟨g6, 0, none⟩)), (7, .pointer (some ⟨g7, 0, none⟩)), (8, .int .i64 ((n : Nat) : Int)), (9, .pointer (some ⟨g9, 0, none⟩)), (24, .slice b (L.length) c), (25, .int .i64 (((L.length) : Nat) : Int)), (26, .int .i64 ((n : Nat) : Int))]) ?_
    refine RP_nil ?_
    refine n_then ?_
    refine W_seq ?_
    refine W_region ?_
    refine RP_seg 2 [.p (.int .i64 ((n : Nat) : Int)), .p (.bool (((n : Nat) : Int) == 0))] [0, 6, 7, 9, 24, 25, 26, 32] (by kernel_rfl) (fun _ => by kernel_rfl) (by kernel_rfl : pick _ _ = some [(0, .pointer (some ⟨bt, 0, none⟩)), (6, .pointer (some ⟨g6, 0, none⟩)), (7, .pointer (some ⟨g7, 0, none⟩)), (9, .pointer (some ⟨g9, 0, none⟩)), (24, .slice b (L.length) c), (25, .int .i64 (((L.length) : Nat) : Int)), (26, .int .i64 ((n : Nat) : Int)), (32, .bool (((n : Nat) : Int) == 0))]) (trivial) ?_
    refine RP_pick [0, 6, 7, 9, 24, 25, 26, 32] (by kernel_rfl : pick _ _ = some [(0, .pointer (some ⟨bt, 0, none⟩)), (6, .pointer (some ⟨g6, 0, none⟩)), (7, .pointer (some ⟨g7, 0, none⟩)), (9, .pointer (some ⟨g9, 0, none⟩)), (24, .slice b (L.length) c), (25, .int .i64 (((L.length) : Nat) : Int)), (26, .int .i64 ((n : Nat) : Int)), (32, .bool (((n : Nat) : Int) == 0))]) ?_
    refine RP_nil ?_
    refine n_then ?_
    refine W_cond rfl (fun c32_26 => ?_) (fun c32_26 => ?_)
    ·
      refine W_region ?_
      refine RP_seg 1 [.l 32 (.pointer (some ⟨g9, 0, none⟩)) (.agg #[.int .i64 s.k, .int .u64 s.a, .int .u64 s.b])] [0, 6, 7, 24, 25, 26, 33] (by kernel_rfl) (fun _ => by kernel_rfl) (by kernel_rfl : pick _ _ = some [(0, .pointer (some ⟨bt, 0, none⟩)), (6, .pointer (some ⟨g6, 0, none⟩)), (7, .pointer (some ⟨g7, 0, none⟩)), (24, .slice b (L.length) c), (25, .int .i64 (((L.length) : Nat) : Int)), (26, .int .i64 ((n : Nat) : Int)), (33, .agg #[.int .i64 s.k, .int .u64 s.a, .int .u64 s.b])]) ⟨ldN st24 agg_32 0 rfl rfl rfl, trivial⟩ ?_
      refine RP_e rfl (ef_store st24 rfl rfl rfl size_32 1 rfl rfl rfl rfl (.inr hg7)) ?_
      rintro _ w27 ⟨rfl, st28, hx29⟩
      replace st28 : St [bm] w w27 [(g9, 32, [.int .i64 s.k, .int .u64 s.a, .int .u64 s.b]), (g7, 32, [.int .i64 s.k, .int .u64 s.a, .int .u64 s.b]), (g6, 32, [.int .i64 0, .int .u64 0, .int .u64 0]), (bm, 205, [.int .i64 jj])] := st28
      replace hac := hac.ext hx29 (fun q hq hm => by simp only [List.mem_singleton] at hm; have := h7 q hq; omega)
      refine RP_pick [0, 6, 7, 24, 25, 26] (by kernel_rfl : pick _ _ = some [(0, .pointer (some ⟨bt, 0, none⟩)), (6, .pointer (some ⟨g6, 0, none⟩)), (7, .pointer (some ⟨g7, 0, none⟩)), (24, .slice b (L.length) c), (25, .int .i64 (((L.length) : Nat) : Int)), (26, .int .i64 ((n : Nat) : Int))]) ?_
      refine RP_nil ?_
      refine n_block ?_
      refine n_then ?_
      refine W_region ?_
      refine RP_seg 2 [.p (.int .i64 (IntKind.i64.wrap (((n : Nat) : Int) + 1))), .p (.int .i64 (IntKind.i64.wrap (((n : Nat) : Int) + 1)))] [0, 6, 7, 24, 25, 26] (by kernel_rfl) (fun _ => by kernel_rfl) (by kernel_rfl : pick _ _ = some [(0, .pointer (some ⟨bt, 0, none⟩)), (6, .pointer (some ⟨g6, 0, none⟩)), (7, .pointer (some ⟨g7, 0, none⟩)), (24, .slice b (L.length) c), (25, .int .i64 (((L.length) : Nat) : Int)), (26, .int .i64 (IntKind.i64.wrap (((n : Nat) : Int) + 1)))]) (trivial) ?_
      refine RP_pick [0, 6, 7, 24, 25, 26] (by kernel_rfl : pick _ _ = some [(0, .pointer (some ⟨bt, 0, none⟩)), (6, .pointer (some ⟨g6, 0, none⟩)), (7, .pointer (some ⟨g7, 0, none⟩)), (24, .slice b (L.length) c), (25, .int .i64 (((L.length) : Nat) : Int)), (26, .int .i64 (IntKind.i64.wrap (((n : Nat) : Int) + 1)))]) ?_
      refine RP_nil ?_
      have hn0 : n = 0 := by have := c32_26; simp at this; omega
      subst hn0
      -- back 0: [(0, .pointer (some ⟨bt, 0, none⟩)), (6, .pointer (some ⟨g6, 0, none⟩)), (7, .pointer (some ⟨g7, 0, none⟩)), (24, .slice b (L.length) c), (25, .int .i64 (((L.length) : Nat) : Int)), (26, .int .i64 (IntKind.i64.wrap (((n : Nat) : Int) + 1)))]
      exact ⟨_, by have := (List.getElem?_eq_some_iff.1 hs).1; omega, (0 + 1), s, jj, rfl, by rw [inc_w (n := 0) (by omega)], st28.sub [] (List.sublist_cons_self _ _), hac, by have := (List.getElem?_eq_some_iff.1 hs).1; omega, (foldTal_one hs).symm, by simpa using hj⟩
    ·
      -- region 7 draws: [(1, 0), (1, 1), (1, 2), (1, 3), (1, 4), (1, 5), (2, 6), (3, 7)]
      refine W_regionS (fun w' => Blk w' g9 32 [.int .i64 s.k, .int .u64 s.a, .int .u64 s.b].toArray ∧ Blk w' g7 32 [.int .i64 o.k, .int .u64 o.a, .int .u64 o.b].toArray ∧ Blk w' bt 179 [.int .i64 0, .int .u64 0, .int .u64 0, .func (.func 101) #[.pointer (some ⟨bm, 0, none⟩)] #[], .pointer p].toArray) [(1, 0), (1, 1), (1, 2), (1, 3), (1, 4), (1, 5), (2, 6), (3, 7)] 8 (by kernel_rfl) (by kernel_rfl) ?_
      have st30 := st24.drew
      replace hac := hac.drew
      refine RS_seg 6 [.p (.pointer (some ⟨bt, 0, none⟩)), .p (.pointer (some ⟨bt, 0, none⟩)), .p (.pointer (some ⟨bt, 3, none⟩)), .l 80 (.pointer (some ⟨bt, 3, none⟩)) (.func (.func 101) #[.pointer (some ⟨bm, 0, none⟩)] #[]), .l 32 (.pointer (some ⟨g7, 0, none⟩)) (.agg #[.int .i64 o.k, .int .u64 o.a, .int .u64 o.b]), .l 32 (.pointer (some ⟨g9, 0, none⟩)) (.agg #[.int .i64 s.k, .int .u64 s.a, .int .u64 s.b])] [0, 6, 7, 24, 25, 26, 37, 38, 39] (by kernel_rfl) (by kernel_rfl) (⟨st30.get 0 rfl, st30.get 1 rfl, htb.ext st30.ext hnt⟩) (by kernel_rfl) (fun _ => by kernel_rfl) (by kernel_rfl : pick _ _ = some [(0, .pointer (some ⟨bt, 0, none⟩)), (6, .pointer (some ⟨g6, 0, none⟩)), (7, .pointer (some ⟨g7, 0, none⟩)), (24, .slice b (L.length) c), (25, .int .i64 (((L.length) : Nat) : Int)), (26, .int .i64 ((n : Nat) : Int)), (37, .func (.func 101) #[.pointer (some ⟨bm, 0, none⟩)] #[]), (38, .agg #[.int .i64 o.k, .int .u64 o.a, .int .u64 o.b]), (39, .agg #[.int .i64 s.k, .int .u64 s.a, .int .u64 s.b])]) (fun _ hS => ⟨ld1b (hS.2.2) nagg_80 rfl, ldNb (hS.2.1) agg_32 rfl rfl, ldNb (hS.1) agg_32 rfl rfl, trivial⟩) ?_
      refine RS_e rfl rfl (ef_call (k := 101) (args := [.pointer (some ⟨bm, 0, none⟩), .agg #[.int .i64 o.k, .int .u64 o.a, .int .u64 o.b], .agg #[.int .i64 s.k, .int .u64 s.a, .int .u64 s.b]]) (meter_join o s bm jj _ (st30.get 3 rfl)) body_101 (by kernel_rfl)) ?_
      rintro _ w31 ⟨_, rfl, rfl, hbj, hx33⟩
      have st32 := st30.turned 3 rfl (.inl (by simp)) hbj hx33
      replace hac := hac.ext hx33 (hac.not_blk (st30.get 3 rfl) (by decide))
      have st34 : St [bm] w w31 [(g9, 32, [.int .i64 s.k, .int .u64 s.a, .int .u64 s.b]), (g7, 32, [.int .i64 o.k, .int .u64 o.a, .int .u64 o.b]), (g6, 32, [.int .i64 0, .int .u64 0, .int .u64 0]), (bm, 205, [.int .i64 (IntKind.i64.wrap (jj + 1))])] := st32
      refine ⟨⟨st34.get 0 rfl, st34.get 1 rfl, htb.ext st34.ext hnt⟩, ?_⟩
      refine RS_f rfl rfl (ef_store st34 rfl rfl rfl size_32 1 rfl rfl rfl rfl (.inr hg7)) ?_
      rintro _ w35 ⟨rfl, st36, hx37⟩
      replace st36 : St [bm] w w35 [(g9, 32, [.int .i64 s.k, .int .u64 s.a, .int .u64 s.b]), (g7, 32, [.int .i64 ((o.join s).k), .int .u64 ((o.join s).a), .int .u64 ((o.join s).b)]), (g6, 32, [.int .i64 0, .int .u64 0, .int .u64 0]), (bm, 205, [.int .i64 (IntKind.i64.wrap (jj + 1))])] := st36
      replace hac := hac.ext hx37 (fun q hq hm => by simp only [List.mem_singleton] at hm; have := h7 q hq; omega)
      refine RS_pick [0, 6, 7, 24, 25, 26] (by kernel_rfl : pick _ _ = some [(0, .pointer (some ⟨bt, 0, none⟩)), (6, .pointer (some ⟨g6, 0, none⟩)), (7, .pointer (some ⟨g7, 0, none⟩)), (24, .slice b (L.length) c), (25, .int .i64 (((L.length) : Nat) : Int)), (26, .int .i64 ((n : Nat) : Int))]) ?_
      refine RS_nil ?_
      refine n_block ?_
      refine n_then ?_
      refine W_region ?_
      refine RP_seg 2 [.p (.int .i64 (IntKind.i64.wrap (((n : Nat) : Int) + 1))), .p (.int .i64 (IntKind.i64.wrap (((n : Nat) : Int) + 1)))] [0, 6, 7, 24, 25, 26] (by kernel_rfl) (fun _ => by kernel_rfl) (by kernel_rfl : pick _ _ = some [(0, .pointer (some ⟨bt, 0, none⟩)), (6, .pointer (some ⟨g6, 0, none⟩)), (7, .pointer (some ⟨g7, 0, none⟩)), (24, .slice b (L.length) c), (25, .int .i64 (((L.length) : Nat) : Int)), (26, .int .i64 (IntKind.i64.wrap (((n : Nat) : Int) + 1)))]) (trivial) ?_
      refine RP_pick [0, 6, 7, 24, 25, 26] (by kernel_rfl : pick _ _ = some [(0, .pointer (some ⟨bt, 0, none⟩)), (6, .pointer (some ⟨g6, 0, none⟩)), (7, .pointer (some ⟨g7, 0, none⟩)), (24, .slice b (L.length) c), (25, .int .i64 (((L.length) : Nat) : Int)), (26, .int .i64 (IntKind.i64.wrap (((n : Nat) : Int) + 1)))]) ?_
      refine RP_nil ?_
      have hn0 : n ≠ 0 := by have := c32_26; simp at this; omega
      -- back 1: [(0, .pointer (some ⟨bt, 0, none⟩)), (6, .pointer (some ⟨g6, 0, none⟩)), (7, .pointer (some ⟨g7, 0, none⟩)), (24, .slice b (L.length) c), (25, .int .i64 (((L.length) : Nat) : Int)), (26, .int .i64 (IntKind.i64.wrap (((n : Nat) : Int) + 1)))]
      exact ⟨_, by have := (List.getElem?_eq_some_iff.1 hs).1; omega, (n + 1), (o.join s), IntKind.i64.wrap (jj + 1), rfl, by rw [inc_w (n := n) (by omega)], st36.sub [] (List.sublist_cons_self _ _), hac, by have := (List.getElem?_eq_some_iff.1 hs).1; omega, by rw [foldTal_succ hs (by omega), ← ho], by rw [addj_succ _ _ (by omega), ← hj]⟩
  ·
    have c27_19p := of_decide_eq_false c27_19
    refine W_exit ?_
    refine e_then <| e_loop <| e_here ?_
    refine n_then ?_
    refine W_seq ?_
    refine W_region ?_
    refine RP_seg 1 [.l 32 (.pointer (some ⟨g7, 0, none⟩)) (.agg #[.int .i64 o.k, .int .u64 o.a, .int .u64 o.b])] [6, 42] (by kernel_rfl) (fun _ => by kernel_rfl) (by kernel_rfl : pick _ _ = some [(6, .pointer (some ⟨g6, 0, none⟩)), (42, .agg #[.int .i64 o.k, .int .u64 o.a, .int .u64 o.b])]) ⟨ldN st17 agg_32 0 rfl rfl rfl, trivial⟩ ?_
    refine RP_e rfl (ef_store st17 rfl rfl rfl size_32 1 rfl rfl rfl rfl (.inr hg6)) ?_
    rintro _ w38 ⟨rfl, st39, hx40⟩
    replace st39 : St [bm] w w38 [(g7, 32, [.int .i64 o.k, .int .u64 o.a, .int .u64 o.b]), (g6, 32, [.int .i64 o.k, .int .u64 o.a, .int .u64 o.b]), (bm, 205, [.int .i64 jj])] := st39
    replace hac := hac.ext hx40 (fun q hq hm => by simp only [List.mem_singleton] at hm; have := h6 q hq; omega)
    refine RP_pick [6] (by kernel_rfl : pick _ _ = some [(6, .pointer (some ⟨g6, 0, none⟩))]) ?_
    refine RP_nil ?_
    refine n_then ?_
    refine W_ret ?_
    have hnL : n = L.length := by omega
    refine ret_of (P := Tryd.prog) (fn := Tryd.f68) (m := [(6, .pointer (some ⟨g6, 0, none⟩))]) (w := w38) (res1 rfl (rv_cell rfl (by simpa [Instr.loadAt, Instr.sureAddr] using (ldN st39 agg_32 1 rfl rfl rfl)))) ?_
    -- return 0: .agg #[.int .i64 o.k, .int .u64 o.a, .int .u64 o.b]
    exact ⟨by rw [ho, hnL, List.take_length]; rfl, ⟨htb.ext st39.ext hnt, by rw [← hnL, ← hj]; exact st39.get 2 rfl⟩, st39.ext⟩
end Go.Proofs.YtcopemgkjbaaeaaDoor
