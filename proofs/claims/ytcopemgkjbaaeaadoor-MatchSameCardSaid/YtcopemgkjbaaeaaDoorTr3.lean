/-
  tree.even: a node over two others of which one may be too high by one.
-/
import Derived.Test.YtcopemgkjbaaeaaDoorTr2
namespace Go.Proofs.YtcopemgkjbaaeaaDoor
set_option linter.all false
open Go.RowKit

/-- the joins of even -/
def T.evenJ (e : Ent) (l r : T) : Nat :=
  if r.high + 1 < l.high then
    match l with
    | .nil => 0
    | .node _ ll lr =>
      if lr.high ≤ ll.high then T.joins lr r + T.joins ll (.node e lr r)
      else match lr with
        | .nil => 0
        | .node _ ml mr => T.joins ll ml + T.joins mr r + 2
  else if l.high + 1 < r.high then
    match r with
    | .nil => 0
    | .node _ rl rr =>
      if rl.high ≤ rr.high then T.joins l rl + T.joins (.node e l rl) rr
      else match rl with
        | .nil => 0
        | .node _ ml mr => T.joins l ml + T.joins mr rr + 2
  else T.joins l r

theorem high_gt {l r : Nat} (hr : r ≤ 1000000) : decide (((l : Nat) : Int) > IntKind.i64.wrap (((r : Nat) : Int) + 1)) = decide (r + 1 < l) := by
  rw [wrap_small (by omega) (by omega)]; simp only [gt_iff_lt, decide_eq_decide]; omega
theorem high_ge {l r : Nat} : decide (((l : Nat) : Int) ≥ ((r : Nat) : Int)) = decide (r ≤ l) := by
  simp only [ge_iff_le, decide_eq_decide]; omega


theorem even_cr {w : World} {bt bm : Nat} {j : Int} {p pl pr : Option Addr} {gx : Nat} {e : Ent} {s : Tal} {ql qr : Option Addr} {m0 h0 : Int} {l r : T}
    (hT : Tr w bt bm j p) (hx : Blk w gx 181 (nodeCells e s ql qr m0 h0)) (hl : IsT w pl l) (hr : IsT w pr r) (hs : l.size + r.size ≤ 100000) :
    CR Tryd.prog 148 [.pointer (some ⟨bt, 0, none⟩), .pointer (some ⟨gx, 0, none⟩), .pointer pl, .pointer pr] w fun v w' =>
      ∃ g, v = .pointer (some ⟨g, 0, none⟩) ∧ IsT w' (some ⟨g, 0, none⟩) (T.even e l r) ∧ Tr w' bt bm (addj j (T.evenJ e l r)) p ∧ Ext [bm] w w' := by
  have hl1 := l.high_le_size
  have hr1 := r.high_le_size
  have hnt : bt ∉ [bm] := by simpa using hT.ne
  have hnx : gx ∉ [bm] := by simpa using (hx.ne_ hT.m (by decide))
  have hno := NoNode.meter hT.m
  have st := (St.init w [bm]).add hT.m (by simp)
  have htb := hT.t
  have hcA := high_gt (l := l.high) (r := r.high) (by omega)
  have hcB := high_gt (l := r.high) (r := l.high) (by omega)
  have hl' := hl
  have hr' := hr
  unfold T.even T.evenJ
  by_cases hA : r.high + 1 < l.high
  · rw [if_pos hA, if_pos hA]
    rw [decide_eq_true hA] at hcA
    rw [decide_eq_false (show ¬ l.high + 1 < r.high by omega)] at hcB
    cases l with
    | nil => simp [T.high] at hA
    | node le ll lr =>
      obtain ⟨gl, pll, plr, rfl, hbl, hll, hlr⟩ := hl
      have hnl : gl ∉ [bm] := by simpa using (hbl.ne_ hT.m (by decide))
      have hcC := high_ge (l := ll.high) (r := lr.high)
      by_cases hC : lr.high ≤ ll.high
      · simp only [if_pos hC]
        rw [decide_eq_true hC] at hcC
        refine CR_enter Tryd.func148 rfl Tryd.ntmps148 rfl ?_
        refine W_seq ?_
        refine W_region ?_
        refine RP_seg 1 [.p (.pointer none)] [0, 1, 2, 3] (by kernel_rfl) (fun _ => by kernel_rfl) (by kernel_rfl : pick _ _ = some [(0, .pointer (some ⟨bt, 0, none⟩)), (1, .pointer (some ⟨gx, 0, none⟩)), (2, .pointer (some ⟨gl, 0, none⟩)), (3, .pointer pr)]) (trivial) ?_
        refine RP_pick [0, 1, 2, 3] (by kernel_rfl : pick _ _ = some [(0, .pointer (some ⟨bt, 0, none⟩)), (1, .pointer (some ⟨gx, 0, none⟩)), (2, .pointer (some ⟨gl, 0, none⟩)), (3, .pointer pr)]) ?_
        refine RP_nil ?_
        refine n_then ?_
        refine W_seq ?_
        refine W_block ?_
        refine W_seq ?_
        -- region 1 draws: [(1, 0), (1, 2), (2, 1), (2, 3), (1, 4), (1, 5), (1, 6), (1, 7), (1, 8), (1, 9), (1, 10), (1, 12), (1, 13), (1, 14), (1, 15), (2, 11), (2, 16), (1, 17), (1, 18), (1, 19)]
        refine W_regionS (fun w' => Blk w' gl 181 [.string le.key, .string le.key, .int .i64 le.c, .int .i64 le.n, .string le.val, .bool le.dead, .int .i64 le.tal.k, .int .u64 le.tal.a, .int .u64 le.tal.b, .int .i64 ((T.node le ll lr).sum.k), .int .u64 ((T.node le ll lr).sum.a), .int .u64 ((T.node le ll lr).sum.b), .pointer pll, .pointer plr, .int .i64 (((T.node le ll lr).size : Nat) : Int), .int .i64 (((T.node le ll lr).high : Nat) : Int)].toArray) [(1, 0), (1, 2), (2, 1), (2, 3), (1, 4), (1, 5), (1, 6), (1, 7), (1, 8), (1, 9), (1, 10), (1, 12), (1, 13), (1, 14), (1, 15), (2, 11), (2, 16), (1, 17), (1, 18), (1, 19)] 20 (by kernel_rfl) (by kernel_rfl) ?_
        have st1 := st.drew
        refine RS_seg 2 [.p (.pointer (some ⟨gl, 0, none⟩)), .p (.pointer pr)] [0, 1, 2, 3, 12, 14] (by kernel_rfl) (by kernel_rfl) (hbl.ext st1.ext hnl) (by kernel_rfl) (fun _ => by kernel_rfl) (by kernel_rfl : pick _ _ = some [(0, .pointer (some ⟨bt, 0, none⟩)), (1, .pointer (some ⟨gx, 0, none⟩)), (2, .pointer (some ⟨gl, 0, none⟩)), (3, .pointer pr), (12, .pointer (some ⟨gl, 0, none⟩)), (14, .pointer pr)]) (fun _ hS => trivial) ?_
        refine RS_e rfl rfl (ef_call (k := 155) (args := [.pointer (some ⟨gl, 0, none⟩)]) (high_cr (hl'.to st1.ext hno)) body_155 (by kernel_rfl)) ?_
        rintro _ _ ⟨_, rfl, rfl, rfl⟩
        refine ⟨hbl.ext st1.ext hnl, ?_⟩
        refine RS_e rfl rfl (ef_call (k := 155) (args := [.pointer pr]) (high_cr (hr'.to st1.ext hno)) body_155 (by kernel_rfl)) ?_
        rintro _ _ ⟨_, rfl, rfl, rfl⟩
        refine ⟨hbl.ext st1.ext hnl, ?_⟩
        refine RS_seg 3 [.p (.int .i64 (IntKind.i64.wrap (((r.high : Nat) : Int) + 1))), .p (.bool (decide ((((T.node le ll lr).high : Nat) : Int) > (IntKind.i64.wrap (((r.high : Nat) : Int) + 1))))), .p (.bool (decide ((((T.node le ll lr).high : Nat) : Int) > (IntKind.i64.wrap (((r.high : Nat) : Int) + 1)))))] [0, 1, 2, 3, 18] (by kernel_rfl) (by kernel_rfl) (hbl.ext st1.ext hnl) (by kernel_rfl) (fun _ => by kernel_rfl) (by kernel_rfl : pick _ _ = some [(0, .pointer (some ⟨bt, 0, none⟩)), (1, .pointer (some ⟨gx, 0, none⟩)), (2, .pointer (some ⟨gl, 0, none⟩)), (3, .pointer pr), (18, .bool (decide ((((T.node le ll lr).high : Nat) : Int) > (IntKind.i64.wrap (((r.high : Nat) : Int) + 1)))))]) (fun _ hS => trivial) ?_
        refine RS_at (m' := [(0, .pointer (some ⟨bt, 0, none⟩)), (1, .pointer (some ⟨gx, 0, none⟩)), (2, .pointer (some ⟨gl, 0, none⟩)), (3, .pointer pr), (18, .bool true)]) (by rw [hcA]) ?_
        refine RS_seg 8 [.p (.pointer (some ⟨gl, 0, none⟩)), .p (.pointer (some ⟨gl, 0, none⟩)), .p (.pointer (some ⟨gl, 12, none⟩)), .l 177 (.pointer (some ⟨gl, 12, none⟩)) (.pointer pll), .p (.pointer (some ⟨gl, 0, none⟩)), .p (.pointer (some ⟨gl, 0, none⟩)), .p (.pointer (some ⟨gl, 13, none⟩)), .l 177 (.pointer (some ⟨gl, 13, none⟩)) (.pointer plr)] [0, 1, 2, 3, 18, 22, 27] (by kernel_rfl) (by kernel_rfl) (hbl.ext st1.ext hnl) (by kernel_rfl) (fun _ => by kernel_rfl) (by kernel_rfl : pick _ _ = some [(0, .pointer (some ⟨bt, 0, none⟩)), (1, .pointer (some ⟨gx, 0, none⟩)), (2, .pointer (some ⟨gl, 0, none⟩)), (3, .pointer pr), (18, .bool true), (22, .pointer pll), (27, .pointer plr)]) (fun _ hS => ⟨ld1b (hS) nagg_177 rfl, ld1b (hS) nagg_177 rfl, trivial⟩) ?_
        refine RS_ge rfl rfl rfl (ef_call (k := 155) (args := [.pointer pll]) (high_cr (hll.to st1.ext hno)) body_155 (by kernel_rfl)) ?_
        rintro _ _ ⟨_, rfl, rfl, rfl⟩
        refine ⟨hbl.ext st1.ext hnl, ?_⟩
        refine RS_ge rfl rfl rfl (ef_call (k := 155) (args := [.pointer plr]) (high_cr (hlr.to st1.ext hno)) body_155 (by kernel_rfl)) ?_
        rintro _ _ ⟨_, rfl, rfl, rfl⟩
        refine ⟨hbl.ext st1.ext hnl, ?_⟩
        refine RS_seg 3 [.p (.bool (decide (((ll.high : Nat) : Int) ≥ ((lr.high : Nat) : Int)))), .p (.bool (decide (((ll.high : Nat) : Int) ≥ ((lr.high : Nat) : Int)))), .p (.bool (decide (((ll.high : Nat) : Int) ≥ ((lr.high : Nat) : Int))))] [0, 1, 2, 3, 11] (by kernel_rfl) (by kernel_rfl) (hbl.ext st1.ext hnl) (by kernel_rfl) (fun _ => by kernel_rfl) (by kernel_rfl : pick _ _ = some [(0, .pointer (some ⟨bt, 0, none⟩)), (1, .pointer (some ⟨gx, 0, none⟩)), (2, .pointer (some ⟨gl, 0, none⟩)), (3, .pointer pr), (11, .bool (decide (((ll.high : Nat) : Int) ≥ ((lr.high : Nat) : Int))))]) (fun _ hS => trivial) ?_
        refine RS_pick [0, 1, 2, 3, 11] (by kernel_rfl : pick _ _ = some [(0, .pointer (some ⟨bt, 0, none⟩)), (1, .pointer (some ⟨gx, 0, none⟩)), (2, .pointer (some ⟨gl, 0, none⟩)), (3, .pointer pr), (11, .bool (decide (((ll.high : Nat) : Int) ≥ ((lr.high : Nat) : Int))))]) ?_
        refine RS_nil ?_
        refine n_then ?_
        refine W_true' rfl hcC ?_
        refine W_seq ?_
        -- region 2 draws: [(1, 0), (1, 1), (1, 2), (1, 3), (1, 4), (1, 5), (1, 6), (1, 7), (1, 8), (1, 9), (1, 10), (1, 11), (1, 12), (2, 13), (2, 14), (0, 15)]
        refine W_regionS (fun w' => Blk w' gl 181 [.string le.key, .string le.key, .int .i64 le.c, .int .i64 le.n, .string le.val, .bool le.dead, .int .i64 le.tal.k, .int .u64 le.tal.a, .int .u64 le.tal.b, .int .i64 ((T.node le ll lr).sum.k), .int .u64 ((T.node le ll lr).sum.a), .int .u64 ((T.node le ll lr).sum.b), .pointer pll, .pointer plr, .int .i64 (((T.node le ll lr).size : Nat) : Int), .int .i64 (((T.node le ll lr).high : Nat) : Int)].toArray) [(1, 0), (1, 1), (1, 2), (1, 3), (1, 4), (1, 5), (1, 6), (1, 7), (1, 8), (1, 9), (1, 10), (1, 11), (1, 12), (2, 13), (2, 14), (0, 15)] 16 (by kernel_rfl) (by kernel_rfl) ?_
        have st14 := st1.drew
        refine RS_seg 13 [.p (.pointer (some ⟨bt, 0, none⟩)), .p (.pointer (some ⟨gl, 0, none⟩)), .p (.pointer (some ⟨gl, 0, none⟩)), .p (.pointer (some ⟨gl, 0, none⟩)), .p (.pointer (some ⟨gl, 12, none⟩)), .l 177 (.pointer (some ⟨gl, 12, none⟩)) (.pointer pll), .p (.pointer (some ⟨bt, 0, none⟩)), .p (.pointer (some ⟨gx, 0, none⟩)), .p (.pointer (some ⟨gl, 0, none⟩)), .p (.pointer (some ⟨gl, 0, none⟩)), .p (.pointer (some ⟨gl, 13, none⟩)), .l 177 (.pointer (some ⟨gl, 13, none⟩)) (.pointer plr), .p (.pointer pr)] [31, 32, 36, 37, 38, 42, 43] (by kernel_rfl) (by kernel_rfl) (hbl.ext st14.ext hnl) (by kernel_rfl) (fun _ => by kernel_rfl) (by kernel_rfl : pick _ _ = some [(31, .pointer (some ⟨bt, 0, none⟩)), (32, .pointer (some ⟨gl, 0, none⟩)), (36, .pointer pll), (37, .pointer (some ⟨bt, 0, none⟩)), (38, .pointer (some ⟨gx, 0, none⟩)), (42, .pointer plr), (43, .pointer pr)]) (fun _ hS => ⟨ld1b (hS) nagg_177 rfl, ld1b (hS) nagg_177 rfl, trivial⟩) ?_
        refine RS_e rfl rfl (ef_call (k := 147) (args := [.pointer (some ⟨bt, 0, none⟩), .pointer (some ⟨gx, 0, none⟩), .pointer plr, .pointer pr]) (over_cr ⟨htb.ext st14.ext hnt, st14.get 0 rfl⟩ (hx.ext st14.ext hnx) (hlr.to st14.ext hno) (hr'.to st14.ext hno) (by (try simp only [T.size] at *) <;> omega)) body_147 (by kernel_rfl)) ?_
        rintro _ w15 ⟨_, rfl, o1, rfl, ho1, hi1, ⟨-, hbj⟩, hx17⟩
        have st16 := st14.turned 0 rfl (.inl (by simp)) hbj hx17
        have st18 : St [bm] w w15 [(bm, 205, [.int .i64 (addj (j) (T.joins lr r))])] := st16
        refine ⟨hbl.ext st18.ext hnl, ?_⟩
        refine RS_e rfl rfl (ef_call (k := 147) (args := [.pointer (some ⟨bt, 0, none⟩), .pointer (some ⟨gl, 0, none⟩), .pointer pll, .pointer (some ⟨o1, 0, none⟩)]) (over_cr ⟨htb.ext st18.ext hnt, st18.get 0 rfl⟩ (hbl.ext st18.ext hnl) (hll.to st18.ext hno) hi1 (by (try simp only [T.size] at *) <;> omega)) body_147 (by kernel_rfl)) ?_
        rintro _ w19 ⟨_, rfl, o2, rfl, ho2, hi2, ⟨-, hbj⟩, hx21⟩
        have st20 := st18.turned 0 rfl (.inl (by simp)) hbj hx21
        replace hi1 := hi1.to hx21 (NoNode.meter (st18.get 0 rfl))
        have st22 : St [bm] w w19 [(bm, 205, [.int .i64 (addj (addj (j) (T.joins lr r)) (T.joins ll (T.node e lr r)))])] := st20
        refine ⟨hbl.ext st22.ext hnl, ?_⟩
        refine RS_segP 1 [.p (.pointer (some ⟨o2, 0, none⟩))] [8] (by kernel_rfl) (by kernel_rfl) (by kernel_rfl) (fun _ => by kernel_rfl) (by kernel_rfl : pick _ _ = some [(8, .pointer (some ⟨o2, 0, none⟩))]) (fun _ => trivial) ?_
        refine RS_pick [8] (by kernel_rfl : pick _ _ = some [(8, .pointer (some ⟨o2, 0, none⟩))]) ?_
        refine RS_nil ?_
        refine n_then ?_
        refine W_ret ?_
        refine r_block <| r_then ?_
        have hbe := st22.get 0 rfl
        try simp only [addj_add] at hbe
        refine ret_of (P := Tryd.prog) (fn := Tryd.f148) (m := [(8, .pointer (some ⟨o2, 0, none⟩))]) (w := w19) (res1 rfl (rv_tmp rfl)) ?_
        -- return 0: .pointer (some ⟨o2, 0, none⟩)
        exact ⟨o2, rfl, hi2, ⟨htb.ext st22.ext hnt, by simpa [Nat.add_assoc] using hbe⟩, st22.ext⟩
      · simp only [if_neg hC]
        rw [decide_eq_false hC] at hcC
        cases lr with
        | nil => simp [T.high] at hC
        | node me ml mr =>
          obtain ⟨gm, pml, pmr, rfl, hbm2, hml, hmr⟩ := id hlr
          have hnm : gm ∉ [bm] := by simpa using (hbm2.ne_ hT.m (by decide))
          refine CR_enter Tryd.func148 rfl Tryd.ntmps148 rfl ?_
          refine W_seq ?_
          refine W_region ?_
          refine RP_seg 1 [.p (.pointer none)] [0, 1, 2, 3] (by kernel_rfl) (fun _ => by kernel_rfl) (by kernel_rfl : pick _ _ = some [(0, .pointer (some ⟨bt, 0, none⟩)), (1, .pointer (some ⟨gx, 0, none⟩)), (2, .pointer (some ⟨gl, 0, none⟩)), (3, .pointer pr)]) (trivial) ?_
          refine RP_pick [0, 1, 2, 3] (by kernel_rfl : pick _ _ = some [(0, .pointer (some ⟨bt, 0, none⟩)), (1, .pointer (some ⟨gx, 0, none⟩)), (2, .pointer (some ⟨gl, 0, none⟩)), (3, .pointer pr)]) ?_
          refine RP_nil ?_
          refine n_then ?_
          refine W_seq ?_
          refine W_block ?_
          refine W_seq ?_
          -- region 1 draws: [(1, 0), (1, 2), (2, 1), (2, 3), (1, 4), (1, 5), (1, 6), (1, 7), (1, 8), (1, 9), (1, 10), (1, 12), (1, 13), (1, 14), (1, 15), (2, 11), (2, 16), (1, 17), (1, 18), (1, 19)]
          refine W_regionS (fun w' => Blk w' gl 181 [.string le.key, .string le.key, .int .i64 le.c, .int .i64 le.n, .string le.val, .bool le.dead, .int .i64 le.tal.k, .int .u64 le.tal.a, .int .u64 le.tal.b, .int .i64 ((T.node le ll (T.node me ml mr)).sum.k), .int .u64 ((T.node le ll (T.node me ml mr)).sum.a), .int .u64 ((T.node le ll (T.node me ml mr)).sum.b), .pointer pll, .pointer (some ⟨gm, 0, none⟩), .int .i64 (((T.node le ll (T.node me ml mr)).size : Nat) : Int), .int .i64 (((T.node le ll (T.node me ml mr)).high : Nat) : Int)].toArray) [(1, 0), (1, 2), (2, 1), (2, 3), (1, 4), (1, 5), (1, 6), (1, 7), (1, 8), (1, 9), (1, 10), (1, 12), (1, 13), (1, 14), (1, 15), (2, 11), (2, 16), (1, 17), (1, 18), (1, 19)] 20 (by kernel_rfl) (by kernel_rfl) ?_
          have st1 := st.drew
          refine RS_seg 2 [.p (.pointer (some ⟨gl, 0, none⟩)), .p (.pointer pr)] [0, 1, 2, 3, 12, 14] (by kernel_rfl) (by kernel_rfl) (hbl.ext st1.ext hnl) (by kernel_rfl) (fun _ => by kernel_rfl) (by kernel_rfl : pick _ _ = some [(0, .pointer (some ⟨bt, 0, none⟩)), (1, .pointer (some ⟨gx, 0, none⟩)), (2, .pointer (some ⟨gl, 0, none⟩)), (3, .pointer pr), (12, .pointer (some ⟨gl, 0, none⟩)), (14, .pointer pr)]) (fun _ hS => trivial) ?_
          refine RS_e rfl rfl (ef_call (k := 155) (args := [.pointer (some ⟨gl, 0, none⟩)]) (high_cr (hl'.to st1.ext hno)) body_155 (by kernel_rfl)) ?_
          rintro _ _ ⟨_, rfl, rfl, rfl⟩
          refine ⟨hbl.ext st1.ext hnl, ?_⟩
          refine RS_e rfl rfl (ef_call (k := 155) (args := [.pointer pr]) (high_cr (hr'.to st1.ext hno)) body_155 (by kernel_rfl)) ?_
          rintro _ _ ⟨_, rfl, rfl, rfl⟩
          refine ⟨hbl.ext st1.ext hnl, ?_⟩
          refine RS_seg 3 [.p (.int .i64 (IntKind.i64.wrap (((r.high : Nat) : Int) + 1))), .p (.bool (decide ((((T.node le ll (T.node me ml mr)).high : Nat) : Int) > (IntKind.i64.wrap (((r.high : Nat) : Int) + 1))))), .p (.bool (decide ((((T.node le ll (T.node me ml mr)).high : Nat) : Int) > (IntKind.i64.wrap (((r.high : Nat) : Int) + 1)))))] [0, 1, 2, 3, 18] (by kernel_rfl) (by kernel_rfl) (hbl.ext st1.ext hnl) (by kernel_rfl) (fun _ => by kernel_rfl) (by kernel_rfl : pick _ _ = some [(0, .pointer (some ⟨bt, 0, none⟩)), (1, .pointer (some ⟨gx, 0, none⟩)), (2, .pointer (some ⟨gl, 0, none⟩)), (3, .pointer pr), (18, .bool (decide ((((T.node le ll (T.node me ml mr)).high : Nat) : Int) > (IntKind.i64.wrap (((r.high : Nat) : Int) + 1)))))]) (fun _ hS => trivial) ?_
          refine RS_at (m' := [(0, .pointer (some ⟨bt, 0, none⟩)), (1, .pointer (some ⟨gx, 0, none⟩)), (2, .pointer (some ⟨gl, 0, none⟩)), (3, .pointer pr), (18, .bool true)]) (by rw [hcA]) ?_
          refine RS_seg 8 [.p (.pointer (some ⟨gl, 0, none⟩)), .p (.pointer (some ⟨gl, 0, none⟩)), .p (.pointer (some ⟨gl, 12, none⟩)), .l 177 (.pointer (some ⟨gl, 12, none⟩)) (.pointer pll), .p (.pointer (some ⟨gl, 0, none⟩)), .p (.pointer (some ⟨gl, 0, none⟩)), .p (.pointer (some ⟨gl, 13, none⟩)), .l 177 (.pointer (some ⟨gl, 13, none⟩)) (.pointer (some ⟨gm, 0, none⟩))] [0, 1, 2, 3, 18, 22, 27] (by kernel_rfl) (by kernel_rfl) (hbl.ext st1.ext hnl) (by kernel_rfl) (fun _ => by kernel_rfl) (by kernel_rfl : pick _ _ = some [(0, .pointer (some ⟨bt, 0, none⟩)), (1, .pointer (some ⟨gx, 0, none⟩)), (2, .pointer (some ⟨gl, 0, none⟩)), (3, .pointer pr), (18, .bool true), (22, .pointer pll), (27, .pointer (some ⟨gm, 0, none⟩))]) (fun _ hS => ⟨ld1b (hS) nagg_177 rfl, ld1b (hS) nagg_177 rfl, trivial⟩) ?_
          refine RS_ge rfl rfl rfl (ef_call (k := 155) (args := [.pointer pll]) (high_cr (hll.to st1.ext hno)) body_155 (by kernel_rfl)) ?_
          rintro _ _ ⟨_, rfl, rfl, rfl⟩
          refine ⟨hbl.ext st1.ext hnl, ?_⟩
          refine RS_ge rfl rfl rfl (ef_call (k := 155) (args := [.pointer (some ⟨gm, 0, none⟩)]) (high_cr (hlr.to st1.ext hno)) body_155 (by kernel_rfl)) ?_
          rintro _ _ ⟨_, rfl, rfl, rfl⟩
          refine ⟨hbl.ext st1.ext hnl, ?_⟩
          refine RS_seg 3 [.p (.bool (decide (((ll.high : Nat) : Int) ≥ (((T.node me ml mr).high : Nat) : Int)))), .p (.bool (decide (((ll.high : Nat) : Int) ≥ (((T.node me ml mr).high : Nat) : Int)))), .p (.bool (decide (((ll.high : Nat) : Int) ≥ (((T.node me ml mr).high : Nat) : Int))))] [0, 1, 2, 3, 11] (by kernel_rfl) (by kernel_rfl) (hbl.ext st1.ext hnl) (by kernel_rfl) (fun _ => by kernel_rfl) (by kernel_rfl : pick _ _ = some [(0, .pointer (some ⟨bt, 0, none⟩)), (1, .pointer (some ⟨gx, 0, none⟩)), (2, .pointer (some ⟨gl, 0, none⟩)), (3, .pointer pr), (11, .bool (decide (((ll.high : Nat) : Int) ≥ (((T.node me ml mr).high : Nat) : Int))))]) (fun _ hS => trivial) ?_
          refine RS_pick [0, 1, 2, 3, 11] (by kernel_rfl : pick _ _ = some [(0, .pointer (some ⟨bt, 0, none⟩)), (1, .pointer (some ⟨gx, 0, none⟩)), (2, .pointer (some ⟨gl, 0, none⟩)), (3, .pointer pr), (11, .bool (decide (((ll.high : Nat) : Int) ≥ (((T.node me ml mr).high : Nat) : Int))))]) ?_
          refine RS_nil ?_
          refine n_then ?_
          refine W_false' rfl hcC ?_
          refine W_seq ?_
          refine W_region ?_
          refine RP_seg 1 [.p (.pointer (some ⟨gl, 0, none⟩))] [0, 1, 2, 3, 47] (by kernel_rfl) (fun _ => by kernel_rfl) (by kernel_rfl : pick _ _ = some [(0, .pointer (some ⟨bt, 0, none⟩)), (1, .pointer (some ⟨gx, 0, none⟩)), (2, .pointer (some ⟨gl, 0, none⟩)), (3, .pointer pr), (47, .pointer (some ⟨gl, 0, none⟩))]) (trivial) ?_
          refine RP_e rfl (ef_call (k := 155) (args := [.pointer (some ⟨gl, 0, none⟩)]) (high_cr (hl'.to st1.ext hno)) body_155 (by kernel_rfl)) ?_
          rintro _ _ ⟨_, rfl, rfl, rfl⟩
          refine RP_seg 1 [.p (.pointer pr)] [0, 1, 2, 3, 48, 49] (by kernel_rfl) (fun _ => by kernel_rfl) (by kernel_rfl : pick _ _ = some [(0, .pointer (some ⟨bt, 0, none⟩)), (1, .pointer (some ⟨gx, 0, none⟩)), (2, .pointer (some ⟨gl, 0, none⟩)), (3, .pointer pr), (48, .int .i64 (((T.node le ll (T.node me ml mr)).high : Nat) : Int)), (49, .pointer pr)]) (trivial) ?_
          refine RP_e rfl (ef_call (k := 155) (args := [.pointer pr]) (high_cr (hr'.to st1.ext hno)) body_155 (by kernel_rfl)) ?_
          rintro _ _ ⟨_, rfl, rfl, rfl⟩
          refine RP_seg 3 [.p (.int .i64 (IntKind.i64.wrap (((r.high : Nat) : Int) + 1))), .p (.bool (decide ((((T.node le ll (T.node me ml mr)).high : Nat) : Int) > (IntKind.i64.wrap (((r.high : Nat) : Int) + 1))))), .p (.bool (decide ((((T.node le ll (T.node me ml mr)).high : Nat) : Int) > (IntKind.i64.wrap (((r.high : Nat) : Int) + 1)))))] [0, 1, 2, 3, 46] (by kernel_rfl) (fun _ => by kernel_rfl) (by kernel_rfl : pick _ _ = some [(0, .pointer (some ⟨bt, 0, none⟩)), (1, .pointer (some ⟨gx, 0, none⟩)), (2, .pointer (some ⟨gl, 0, none⟩)), (3, .pointer pr), (46, .bool (decide ((((T.node le ll (T.node me ml mr)).high : Nat) : Int) > (IntKind.i64.wrap (((r.high : Nat) : Int) + 1)))))]) (trivial) ?_
          refine RP_pick [0, 1, 2, 3, 46] (by kernel_rfl : pick _ _ = some [(0, .pointer (some ⟨bt, 0, none⟩)), (1, .pointer (some ⟨gx, 0, none⟩)), (2, .pointer (some ⟨gl, 0, none⟩)), (3, .pointer pr), (46, .bool (decide ((((T.node le ll (T.node me ml mr)).high : Nat) : Int) > (IntKind.i64.wrap (((r.high : Nat) : Int) + 1)))))]) ?_
          refine RP_nil ?_
          refine n_then ?_
          refine W_true' rfl hcA ?_
          refine W_seq ?_
          refine W_region ?_
          refine RP_seg 5 [.p (.pointer (some ⟨gl, 0, none⟩)), .p (.pointer (some ⟨gl, 0, none⟩)), .p (.pointer (some ⟨gl, 13, none⟩)), .l 177 (.pointer (some ⟨gl, 13, none⟩)) (.pointer (some ⟨gm, 0, none⟩)), .p (.pointer (some ⟨gm, 0, none⟩))] [0, 1, 2, 3, 9] (by kernel_rfl) (fun _ => by kernel_rfl) (by kernel_rfl : pick _ _ = some [(0, .pointer (some ⟨bt, 0, none⟩)), (1, .pointer (some ⟨gx, 0, none⟩)), (2, .pointer (some ⟨gl, 0, none⟩)), (3, .pointer pr), (9, .pointer (some ⟨gm, 0, none⟩))]) ⟨ld1b (hbl.ext st1.ext hnl) nagg_177 rfl, trivial⟩ ?_
          refine RP_pick [0, 1, 2, 3, 9] (by kernel_rfl : pick _ _ = some [(0, .pointer (some ⟨bt, 0, none⟩)), (1, .pointer (some ⟨gx, 0, none⟩)), (2, .pointer (some ⟨gl, 0, none⟩)), (3, .pointer pr), (9, .pointer (some ⟨gm, 0, none⟩))]) ?_
          refine RP_nil ?_
          refine n_then ?_
          refine W_seq ?_
          -- region 5 draws: [(1, 0), (1, 1), (1, 2), (1, 3), (1, 4), (1, 5), (1, 6), (1, 7), (1, 8), (1, 9), (1, 10), (1, 11), (1, 13), (1, 14), (1, 15), (1, 16), (1, 17), (1, 18), (1, 19), (2, 12), (2, 20), (2, 21), (0, 22)]
          refine W_regionS (fun w' => Blk w' gl 181 [.string le.key, .string le.key, .int .i64 le.c, .int .i64 le.n, .string le.val, .bool le.dead, .int .i64 le.tal.k, .int .u64 le.tal.a, .int .u64 le.tal.b, .int .i64 ((T.node le ll (T.node me ml mr)).sum.k), .int .u64 ((T.node le ll (T.node me ml mr)).sum.a), .int .u64 ((T.node le ll (T.node me ml mr)).sum.b), .pointer pll, .pointer (some ⟨gm, 0, none⟩), .int .i64 (((T.node le ll (T.node me ml mr)).size : Nat) : Int), .int .i64 (((T.node le ll (T.node me ml mr)).high : Nat) : Int)].toArray ∧ Blk w' gm 181 [.string me.key, .string me.key, .int .i64 me.c, .int .i64 me.n, .string me.val, .bool me.dead, .int .i64 me.tal.k, .int .u64 me.tal.a, .int .u64 me.tal.b, .int .i64 ((T.node me ml mr).sum.k), .int .u64 ((T.node me ml mr).sum.a), .int .u64 ((T.node me ml mr).sum.b), .pointer pml, .pointer pmr, .int .i64 (((T.node me ml mr).size : Nat) : Int), .int .i64 (((T.node me ml mr).high : Nat) : Int)].toArray) [(1, 0), (1, 1), (1, 2), (1, 3), (1, 4), (1, 5), (1, 6), (1, 7), (1, 8), (1, 9), (1, 10), (1, 11), (1, 13), (1, 14), (1, 15), (1, 16), (1, 17), (1, 18), (1, 19), (2, 12), (2, 20), (2, 21), (0, 22)] 23 (by kernel_rfl) (by kernel_rfl) ?_
          have st20 := st1.drew
          refine RS_seg 19 [.p (.pointer (some ⟨bt, 0, none⟩)), .p (.pointer (some ⟨gm, 0, none⟩)), .p (.pointer (some ⟨bt, 0, none⟩)), .p (.pointer (some ⟨gl, 0, none⟩)), .p (.pointer (some ⟨gl, 0, none⟩)), .p (.pointer (some ⟨gl, 0, none⟩)), .p (.pointer (some ⟨gl, 12, none⟩)), .l 177 (.pointer (some ⟨gl, 12, none⟩)) (.pointer pll), .p (.pointer (some ⟨gm, 0, none⟩)), .p (.pointer (some ⟨gm, 0, none⟩)), .p (.pointer (some ⟨gm, 12, none⟩)), .l 177 (.pointer (some ⟨gm, 12, none⟩)) (.pointer pml), .p (.pointer (some ⟨bt, 0, none⟩)), .p (.pointer (some ⟨gx, 0, none⟩)), .p (.pointer (some ⟨gm, 0, none⟩)), .p (.pointer (some ⟨gm, 0, none⟩)), .p (.pointer (some ⟨gm, 13, none⟩)), .l 177 (.pointer (some ⟨gm, 13, none⟩)) (.pointer pmr), .p (.pointer pr)] [57, 58, 59, 60, 64, 68, 70, 71, 75, 76] (by kernel_rfl) (by kernel_rfl) (⟨hbl.ext st20.ext hnl, hbm2.ext st20.ext hnm⟩) (by kernel_rfl) (fun _ => by kernel_rfl) (by kernel_rfl : pick _ _ = some [(57, .pointer (some ⟨bt, 0, none⟩)), (58, .pointer (some ⟨gm, 0, none⟩)), (59, .pointer (some ⟨bt, 0, none⟩)), (60, .pointer (some ⟨gl, 0, none⟩)), (64, .pointer pll), (68, .pointer pml), (70, .pointer (some ⟨bt, 0, none⟩)), (71, .pointer (some ⟨gx, 0, none⟩)), (75, .pointer pmr), (76, .pointer pr)]) (fun _ hS => ⟨ld1b (hS.1) nagg_177 rfl, ld1b (hS.2) nagg_177 rfl, ld1b (hS.2) nagg_177 rfl, trivial⟩) ?_
          refine RS_e rfl rfl (ef_call (k := 147) (args := [.pointer (some ⟨bt, 0, none⟩), .pointer (some ⟨gl, 0, none⟩), .pointer pll, .pointer pml]) (over_cr ⟨htb.ext st20.ext hnt, st20.get 0 rfl⟩ (hbl.ext st20.ext hnl) (hll.to st20.ext hno) (hml.to st20.ext hno) (by (try simp only [T.size] at *) <;> omega)) body_147 (by kernel_rfl)) ?_
          rintro _ w21 ⟨_, rfl, o1, rfl, ho1, hi1, ⟨-, hbj⟩, hx23⟩
          have st22 := st20.turned 0 rfl (.inl (by simp)) hbj hx23
          have st24 : St [bm] w w21 [(bm, 205, [.int .i64 (addj (j) (T.joins ll ml))])] := st22
          refine ⟨⟨hbl.ext st24.ext hnl, hbm2.ext st24.ext hnm⟩, ?_⟩
          refine RS_e rfl rfl (ef_call (k := 147) (args := [.pointer (some ⟨bt, 0, none⟩), .pointer (some ⟨gx, 0, none⟩), .pointer pmr, .pointer pr]) (over_cr ⟨htb.ext st24.ext hnt, st24.get 0 rfl⟩ (hx.ext st24.ext hnx) (hmr.to st24.ext hno) (hr'.to st24.ext hno) (by (try simp only [T.size] at *) <;> omega)) body_147 (by kernel_rfl)) ?_
          rintro _ w25 ⟨_, rfl, o2, rfl, ho2, hi2, ⟨-, hbj⟩, hx27⟩
          have st26 := st24.turned 0 rfl (.inl (by simp)) hbj hx27
          replace hi1 := hi1.to hx27 (NoNode.meter (st24.get 0 rfl))
          have st28 : St [bm] w w25 [(bm, 205, [.int .i64 (addj (addj (j) (T.joins ll ml)) (T.joins mr r))])] := st26
          refine ⟨⟨hbl.ext st28.ext hnl, hbm2.ext st28.ext hnm⟩, ?_⟩
          refine RS_e rfl rfl (ef_call (k := 147) (args := [.pointer (some ⟨bt, 0, none⟩), .pointer (some ⟨gm, 0, none⟩), .pointer (some ⟨o1, 0, none⟩), .pointer (some ⟨o2, 0, none⟩)]) (over_cr ⟨htb.ext st28.ext hnt, st28.get 0 rfl⟩ (hbm2.ext st28.ext hnm) hi1 hi2 (by (try simp only [T.size] at *) <;> omega)) body_147 (by kernel_rfl)) ?_
          rintro _ w29 ⟨_, rfl, o3, rfl, ho3, hi3, ⟨-, hbj⟩, hx31⟩
          have st30 := st28.turned 0 rfl (.inl (by simp)) hbj hx31
          replace hi1 := hi1.to hx31 (NoNode.meter (st28.get 0 rfl))
          replace hi2 := hi2.to hx31 (NoNode.meter (st28.get 0 rfl))
          have st32 : St [bm] w w29 [(bm, 205, [.int .i64 (addj (addj (addj (j) (T.joins ll ml)) (T.joins mr r)) (2))])] := st30
          refine ⟨⟨hbl.ext st32.ext hnl, hbm2.ext st32.ext hnm⟩, ?_⟩
          refine RS_segP 1 [.p (.pointer (some ⟨o3, 0, none⟩))] [8] (by kernel_rfl) (by kernel_rfl) (by kernel_rfl) (fun _ => by kernel_rfl) (by kernel_rfl : pick _ _ = some [(8, .pointer (some ⟨o3, 0, none⟩))]) (fun _ => trivial) ?_
          refine RS_pick [8] (by kernel_rfl : pick _ _ = some [(8, .pointer (some ⟨o3, 0, none⟩))]) ?_
          refine RS_nil ?_
          refine n_then ?_
          refine W_ret ?_
          refine r_block <| r_then ?_
          have hbe := st32.get 0 rfl
          try simp only [addj_add] at hbe
          refine ret_of (P := Tryd.prog) (fn := Tryd.f148) (m := [(8, .pointer (some ⟨o3, 0, none⟩))]) (w := w29) (res1 rfl (rv_tmp rfl)) ?_
          -- return 0: .pointer (some ⟨o3, 0, none⟩)
          exact ⟨o3, rfl, hi3, ⟨htb.ext st32.ext hnt, by simpa [Nat.add_assoc] using hbe⟩, st32.ext⟩
  · rw [if_neg hA, if_neg hA]
    rw [decide_eq_false hA] at hcA
    by_cases hB : l.high + 1 < r.high
    · rw [if_pos hB, if_pos hB]
      rw [decide_eq_true hB] at hcB
      cases r with
      | nil => simp [T.high] at hB
      | node re rl rr =>
        obtain ⟨gr, prl, prr, rfl, hbr, hrl, hrr⟩ := hr
        have hnr : gr ∉ [bm] := by simpa using (hbr.ne_ hT.m (by decide))
        have hcC := high_ge (l := rr.high) (r := rl.high)
        by_cases hC : rl.high ≤ rr.high
        · simp only [if_pos hC]
          rw [decide_eq_true hC] at hcC
          refine CR_enter Tryd.func148 rfl Tryd.ntmps148 rfl ?_
          refine W_seq ?_
          refine W_region ?_
          refine RP_seg 1 [.p (.pointer none)] [0, 1, 2, 3] (by kernel_rfl) (fun _ => by kernel_rfl) (by kernel_rfl : pick _ _ = some [(0, .pointer (some ⟨bt, 0, none⟩)), (1, .pointer (some ⟨gx, 0, none⟩)), (2, .pointer pl), (3, .pointer (some ⟨gr, 0, none⟩))]) (trivial) ?_
          refine RP_pick [0, 1, 2, 3] (by kernel_rfl : pick _ _ = some [(0, .pointer (some ⟨bt, 0, none⟩)), (1, .pointer (some ⟨gx, 0, none⟩)), (2, .pointer pl), (3, .pointer (some ⟨gr, 0, none⟩))]) ?_
          refine RP_nil ?_
          refine n_then ?_
          refine W_seq ?_
          refine W_block ?_
          refine W_seq ?_
          -- region 1 draws: [(1, 0), (1, 2), (2, 1), (2, 3), (1, 4), (1, 5), (1, 6), (1, 7), (1, 8), (1, 9), (1, 10), (1, 12), (1, 13), (1, 14), (1, 15), (2, 11), (2, 16), (1, 17), (1, 18), (1, 19)]
          refine W_regionS (fun _ => True) [(1, 0), (1, 2), (2, 1), (2, 3), (1, 4), (1, 5), (1, 6), (1, 7), (1, 8), (1, 9), (1, 10), (1, 12), (1, 13), (1, 14), (1, 15), (2, 11), (2, 16), (1, 17), (1, 18), (1, 19)] 20 (by kernel_rfl) (by kernel_rfl) ?_
          have st1 := st.drew
          refine RS_seg 2 [.p (.pointer pl), .p (.pointer (some ⟨gr, 0, none⟩))] [0, 1, 2, 3, 12, 14] (by kernel_rfl) (by kernel_rfl) (trivial) (by kernel_rfl) (fun _ => by kernel_rfl) (by kernel_rfl : pick _ _ = some [(0, .pointer (some ⟨bt, 0, none⟩)), (1, .pointer (some ⟨gx, 0, none⟩)), (2, .pointer pl), (3, .pointer (some ⟨gr, 0, none⟩)), (12, .pointer pl), (14, .pointer (some ⟨gr, 0, none⟩))]) (fun _ hS => trivial) ?_
          refine RS_e rfl rfl (ef_call (k := 155) (args := [.pointer pl]) (high_cr (hl'.to st1.ext hno)) body_155 (by kernel_rfl)) ?_
          rintro _ _ ⟨_, rfl, rfl, rfl⟩
          refine ⟨trivial, ?_⟩
          refine RS_e rfl rfl (ef_call (k := 155) (args := [.pointer (some ⟨gr, 0, none⟩)]) (high_cr (hr'.to st1.ext hno)) body_155 (by kernel_rfl)) ?_
          rintro _ _ ⟨_, rfl, rfl, rfl⟩
          refine ⟨trivial, ?_⟩
          refine RS_seg 3 [.p (.int .i64 (IntKind.i64.wrap ((((T.node re rl rr).high : Nat) : Int) + 1))), .p (.bool (decide (((l.high : Nat) : Int) > (IntKind.i64.wrap ((((T.node re rl rr).high : Nat) : Int) + 1))))), .p (.bool (decide (((l.high : Nat) : Int) > (IntKind.i64.wrap ((((T.node re rl rr).high : Nat) : Int) + 1)))))] [0, 1, 2, 3, 18] (by kernel_rfl) (by kernel_rfl) (trivial) (by kernel_rfl) (fun _ => by kernel_rfl) (by kernel_rfl : pick _ _ = some [(0, .pointer (some ⟨bt, 0, none⟩)), (1, .pointer (some ⟨gx, 0, none⟩)), (2, .pointer pl), (3, .pointer (some ⟨gr, 0, none⟩)), (18, .bool (decide (((l.high : Nat) : Int) > (IntKind.i64.wrap ((((T.node re rl rr).high : Nat) : Int) + 1)))))]) (fun _ hS => trivial) ?_
          refine RS_at (m' := [(0, .pointer (some ⟨bt, 0, none⟩)), (1, .pointer (some ⟨gx, 0, none⟩)), (2, .pointer pl), (3, .pointer (some ⟨gr, 0, none⟩)), (18, .bool false)]) (by rw [hcA]) ?_
          refine RS_seg 8 [.no, .no, .no, .no, .no, .no, .no, .no] [0, 1, 2, 3, 18, 22, 27] (by kernel_rfl) (by kernel_rfl) (trivial) (by kernel_rfl) (fun _ => by kernel_rfl) (by kernel_rfl : pick _ _ = some [(0, .pointer (some ⟨bt, 0, none⟩)), (1, .pointer (some ⟨gx, 0, none⟩)), (2, .pointer pl), (3, .pointer (some ⟨gr, 0, none⟩)), (18, .bool false), (22, undef), (27, undef)]) (fun _ hS => trivial) ?_
          refine RS_noe rfl (fun d h => by injection h with h; subst h; rfl) rfl (by decide) (trivial) ?_
          refine RS_noe rfl (fun d h => by injection h with h; subst h; rfl) rfl (by decide) (trivial) ?_
          refine RS_seg 3 [.no, .p (.bool false), .p (.bool false)] [0, 1, 2, 3, 11] (by kernel_rfl) (by kernel_rfl) (trivial) (by kernel_rfl) (fun _ => by kernel_rfl) (by kernel_rfl : pick _ _ = some [(0, .pointer (some ⟨bt, 0, none⟩)), (1, .pointer (some ⟨gx, 0, none⟩)), (2, .pointer pl), (3, .pointer (some ⟨gr, 0, none⟩)), (11, .bool false)]) (fun _ hS => trivial) ?_
          refine RS_pick [0, 1, 2, 3, 11] (by kernel_rfl : pick _ _ = some [(0, .pointer (some ⟨bt, 0, none⟩)), (1, .pointer (some ⟨gx, 0, none⟩)), (2, .pointer pl), (3, .pointer (some ⟨gr, 0, none⟩)), (11, .bool false)]) ?_
          refine RS_nil ?_
          refine n_then ?_
          refine W_false rfl ?_
          refine W_seq ?_
          refine W_region ?_
          refine RP_seg 1 [.p (.pointer pl)] [0, 1, 2, 3, 47] (by kernel_rfl) (fun _ => by kernel_rfl) (by kernel_rfl : pick _ _ = some [(0, .pointer (some ⟨bt, 0, none⟩)), (1, .pointer (some ⟨gx, 0, none⟩)), (2, .pointer pl), (3, .pointer (some ⟨gr, 0, none⟩)), (47, .pointer pl)]) (trivial) ?_
          refine RP_e rfl (ef_call (k := 155) (args := [.pointer pl]) (high_cr (hl'.to st1.ext hno)) body_155 (by kernel_rfl)) ?_
          rintro _ _ ⟨_, rfl, rfl, rfl⟩
          refine RP_seg 1 [.p (.pointer (some ⟨gr, 0, none⟩))] [0, 1, 2, 3, 48, 49] (by kernel_rfl) (fun _ => by kernel_rfl) (by kernel_rfl : pick _ _ = some [(0, .pointer (some ⟨bt, 0, none⟩)), (1, .pointer (some ⟨gx, 0, none⟩)), (2, .pointer pl), (3, .pointer (some ⟨gr, 0, none⟩)), (48, .int .i64 ((l.high : Nat) : Int)), (49, .pointer (some ⟨gr, 0, none⟩))]) (trivial) ?_
          refine RP_e rfl (ef_call (k := 155) (args := [.pointer (some ⟨gr, 0, none⟩)]) (high_cr (hr'.to st1.ext hno)) body_155 (by kernel_rfl)) ?_
          rintro _ _ ⟨_, rfl, rfl, rfl⟩
          refine RP_seg 3 [.p (.int .i64 (IntKind.i64.wrap ((((T.node re rl rr).high : Nat) : Int) + 1))), .p (.bool (decide (((l.high : Nat) : Int) > (IntKind.i64.wrap ((((T.node re rl rr).high : Nat) : Int) + 1))))), .p (.bool (decide (((l.high : Nat) : Int) > (IntKind.i64.wrap ((((T.node re rl rr).high : Nat) : Int) + 1)))))] [0, 1, 2, 3, 46] (by kernel_rfl) (fun _ => by kernel_rfl) (by kernel_rfl : pick _ _ = some [(0, .pointer (some ⟨bt, 0, none⟩)), (1, .pointer (some ⟨gx, 0, none⟩)), (2, .pointer pl), (3, .pointer (some ⟨gr, 0, none⟩)), (46, .bool (decide (((l.high : Nat) : Int) > (IntKind.i64.wrap ((((T.node re rl rr).high : Nat) : Int) + 1)))))]) (trivial) ?_
          refine RP_pick [0, 1, 2, 3, 46] (by kernel_rfl : pick _ _ = some [(0, .pointer (some ⟨bt, 0, none⟩)), (1, .pointer (some ⟨gx, 0, none⟩)), (2, .pointer pl), (3, .pointer (some ⟨gr, 0, none⟩)), (46, .bool (decide (((l.high : Nat) : Int) > (IntKind.i64.wrap ((((T.node re rl rr).high : Nat) : Int) + 1)))))]) ?_
          refine RP_nil ?_
          refine n_then ?_
          refine W_false' rfl hcA ?_
          refine W_seq ?_
          -- region 6 draws: [(1, 0), (1, 2), (2, 1), (2, 3), (1, 4), (1, 5), (1, 6), (1, 7), (1, 8), (1, 9), (1, 10), (1, 12), (1, 13), (1, 14), (1, 15), (2, 11), (2, 16), (1, 17), (1, 18), (1, 19)]
          refine W_regionS (fun w' => Blk w' gr 181 [.string re.key, .string re.key, .int .i64 re.c, .int .i64 re.n, .string re.val, .bool re.dead, .int .i64 re.tal.k, .int .u64 re.tal.a, .int .u64 re.tal.b, .int .i64 ((T.node re rl rr).sum.k), .int .u64 ((T.node re rl rr).sum.a), .int .u64 ((T.node re rl rr).sum.b), .pointer prl, .pointer prr, .int .i64 (((T.node re rl rr).size : Nat) : Int), .int .i64 (((T.node re rl rr).high : Nat) : Int)].toArray) [(1, 0), (1, 2), (2, 1), (2, 3), (1, 4), (1, 5), (1, 6), (1, 7), (1, 8), (1, 9), (1, 10), (1, 12), (1, 13), (1, 14), (1, 15), (2, 11), (2, 16), (1, 17), (1, 18), (1, 19)] 20 (by kernel_rfl) (by kernel_rfl) ?_
          have st14 := st1.drew
          refine RS_seg 2 [.p (.pointer (some ⟨gr, 0, none⟩)), .p (.pointer pl)] [0, 1, 2, 3, 80, 82] (by kernel_rfl) (by kernel_rfl) (hbr.ext st14.ext hnr) (by kernel_rfl) (fun _ => by kernel_rfl) (by kernel_rfl : pick _ _ = some [(0, .pointer (some ⟨bt, 0, none⟩)), (1, .pointer (some ⟨gx, 0, none⟩)), (2, .pointer pl), (3, .pointer (some ⟨gr, 0, none⟩)), (80, .pointer (some ⟨gr, 0, none⟩)), (82, .pointer pl)]) (fun _ hS => trivial) ?_
          refine RS_e rfl rfl (ef_call (k := 155) (args := [.pointer (some ⟨gr, 0, none⟩)]) (high_cr (hr'.to st14.ext hno)) body_155 (by kernel_rfl)) ?_
          rintro _ _ ⟨_, rfl, rfl, rfl⟩
          refine ⟨hbr.ext st14.ext hnr, ?_⟩
          refine RS_e rfl rfl (ef_call (k := 155) (args := [.pointer pl]) (high_cr (hl'.to st14.ext hno)) body_155 (by kernel_rfl)) ?_
          rintro _ _ ⟨_, rfl, rfl, rfl⟩
          refine ⟨hbr.ext st14.ext hnr, ?_⟩
          refine RS_seg 3 [.p (.int .i64 (IntKind.i64.wrap (((l.high : Nat) : Int) + 1))), .p (.bool (decide ((((T.node re rl rr).high : Nat) : Int) > (IntKind.i64.wrap (((l.high : Nat) : Int) + 1))))), .p (.bool (decide ((((T.node re rl rr).high : Nat) : Int) > (IntKind.i64.wrap (((l.high : Nat) : Int) + 1)))))] [0, 1, 2, 3, 86] (by kernel_rfl) (by kernel_rfl) (hbr.ext st14.ext hnr) (by kernel_rfl) (fun _ => by kernel_rfl) (by kernel_rfl : pick _ _ = some [(0, .pointer (some ⟨bt, 0, none⟩)), (1, .pointer (some ⟨gx, 0, none⟩)), (2, .pointer pl), (3, .pointer (some ⟨gr, 0, none⟩)), (86, .bool (decide ((((T.node re rl rr).high : Nat) : Int) > (IntKind.i64.wrap (((l.high : Nat) : Int) + 1)))))]) (fun _ hS => trivial) ?_
          refine RS_at (m' := [(0, .pointer (some ⟨bt, 0, none⟩)), (1, .pointer (some ⟨gx, 0, none⟩)), (2, .pointer pl), (3, .pointer (some ⟨gr, 0, none⟩)), (86, .bool true)]) (by rw [hcB]) ?_
          refine RS_seg 8 [.p (.pointer (some ⟨gr, 0, none⟩)), .p (.pointer (some ⟨gr, 0, none⟩)), .p (.pointer (some ⟨gr, 13, none⟩)), .l 177 (.pointer (some ⟨gr, 13, none⟩)) (.pointer prr), .p (.pointer (some ⟨gr, 0, none⟩)), .p (.pointer (some ⟨gr, 0, none⟩)), .p (.pointer (some ⟨gr, 12, none⟩)), .l 177 (.pointer (some ⟨gr, 12, none⟩)) (.pointer prl)] [0, 1, 2, 3, 86, 90, 95] (by kernel_rfl) (by kernel_rfl) (hbr.ext st14.ext hnr) (by kernel_rfl) (fun _ => by kernel_rfl) (by kernel_rfl : pick _ _ = some [(0, .pointer (some ⟨bt, 0, none⟩)), (1, .pointer (some ⟨gx, 0, none⟩)), (2, .pointer pl), (3, .pointer (some ⟨gr, 0, none⟩)), (86, .bool true), (90, .pointer prr), (95, .pointer prl)]) (fun _ hS => ⟨ld1b (hS) nagg_177 rfl, ld1b (hS) nagg_177 rfl, trivial⟩) ?_
          refine RS_ge rfl rfl rfl (ef_call (k := 155) (args := [.pointer prr]) (high_cr (hrr.to st14.ext hno)) body_155 (by kernel_rfl)) ?_
          rintro _ _ ⟨_, rfl, rfl, rfl⟩
          refine ⟨hbr.ext st14.ext hnr, ?_⟩
          refine RS_ge rfl rfl rfl (ef_call (k := 155) (args := [.pointer prl]) (high_cr (hrl.to st14.ext hno)) body_155 (by kernel_rfl)) ?_
          rintro _ _ ⟨_, rfl, rfl, rfl⟩
          refine ⟨hbr.ext st14.ext hnr, ?_⟩
          refine RS_seg 3 [.p (.bool (decide (((rr.high : Nat) : Int) ≥ ((rl.high : Nat) : Int)))), .p (.bool (decide (((rr.high : Nat) : Int) ≥ ((rl.high : Nat) : Int)))), .p (.bool (decide (((rr.high : Nat) : Int) ≥ ((rl.high : Nat) : Int))))] [0, 1, 2, 3, 79] (by kernel_rfl) (by kernel_rfl) (hbr.ext st14.ext hnr) (by kernel_rfl) (fun _ => by kernel_rfl) (by kernel_rfl : pick _ _ = some [(0, .pointer (some ⟨bt, 0, none⟩)), (1, .pointer (some ⟨gx, 0, none⟩)), (2, .pointer pl), (3, .pointer (some ⟨gr, 0, none⟩)), (79, .bool (decide (((rr.high : Nat) : Int) ≥ ((rl.high : Nat) : Int))))]) (fun _ hS => trivial) ?_
          refine RS_pick [0, 1, 2, 3, 79] (by kernel_rfl : pick _ _ = some [(0, .pointer (some ⟨bt, 0, none⟩)), (1, .pointer (some ⟨gx, 0, none⟩)), (2, .pointer pl), (3, .pointer (some ⟨gr, 0, none⟩)), (79, .bool (decide (((rr.high : Nat) : Int) ≥ ((rl.high : Nat) : Int))))]) ?_
          refine RS_nil ?_
          refine n_then ?_
          refine W_true' rfl hcC ?_
          refine W_seq ?_
          -- region 7 draws: [(1, 0), (1, 1), (1, 2), (1, 3), (1, 4), (1, 5), (1, 6), (1, 7), (1, 8), (1, 10), (1, 11), (1, 12), (1, 13), (2, 9), (2, 14), (0, 15)]
          refine W_regionS (fun w' => Blk w' gr 181 [.string re.key, .string re.key, .int .i64 re.c, .int .i64 re.n, .string re.val, .bool re.dead, .int .i64 re.tal.k, .int .u64 re.tal.a, .int .u64 re.tal.b, .int .i64 ((T.node re rl rr).sum.k), .int .u64 ((T.node re rl rr).sum.a), .int .u64 ((T.node re rl rr).sum.b), .pointer prl, .pointer prr, .int .i64 (((T.node re rl rr).size : Nat) : Int), .int .i64 (((T.node re rl rr).high : Nat) : Int)].toArray) [(1, 0), (1, 1), (1, 2), (1, 3), (1, 4), (1, 5), (1, 6), (1, 7), (1, 8), (1, 10), (1, 11), (1, 12), (1, 13), (2, 9), (2, 14), (0, 15)] 16 (by kernel_rfl) (by kernel_rfl) ?_
          have st27 := st14.drew
          refine RS_seg 13 [.p (.pointer (some ⟨bt, 0, none⟩)), .p (.pointer (some ⟨gr, 0, none⟩)), .p (.pointer (some ⟨bt, 0, none⟩)), .p (.pointer (some ⟨gx, 0, none⟩)), .p (.pointer pl), .p (.pointer (some ⟨gr, 0, none⟩)), .p (.pointer (some ⟨gr, 0, none⟩)), .p (.pointer (some ⟨gr, 12, none⟩)), .l 177 (.pointer (some ⟨gr, 12, none⟩)) (.pointer prl), .p (.pointer (some ⟨gr, 0, none⟩)), .p (.pointer (some ⟨gr, 0, none⟩)), .p (.pointer (some ⟨gr, 13, none⟩)), .l 177 (.pointer (some ⟨gr, 13, none⟩)) (.pointer prr)] [99, 100, 101, 102, 103, 107, 112] (by kernel_rfl) (by kernel_rfl) (hbr.ext st27.ext hnr) (by kernel_rfl) (fun _ => by kernel_rfl) (by kernel_rfl : pick _ _ = some [(99, .pointer (some ⟨bt, 0, none⟩)), (100, .pointer (some ⟨gr, 0, none⟩)), (101, .pointer (some ⟨bt, 0, none⟩)), (102, .pointer (some ⟨gx, 0, none⟩)), (103, .pointer pl), (107, .pointer prl), (112, .pointer prr)]) (fun _ hS => ⟨ld1b (hS) nagg_177 rfl, ld1b (hS) nagg_177 rfl, trivial⟩) ?_
          refine RS_e rfl rfl (ef_call (k := 147) (args := [.pointer (some ⟨bt, 0, none⟩), .pointer (some ⟨gx, 0, none⟩), .pointer pl, .pointer prl]) (over_cr ⟨htb.ext st27.ext hnt, st27.get 0 rfl⟩ (hx.ext st27.ext hnx) (hl'.to st27.ext hno) (hrl.to st27.ext hno) (by (try simp only [T.size] at *) <;> omega)) body_147 (by kernel_rfl)) ?_
          rintro _ w28 ⟨_, rfl, o1, rfl, ho1, hi1, ⟨-, hbj⟩, hx30⟩
          have st29 := st27.turned 0 rfl (.inl (by simp)) hbj hx30
          have st31 : St [bm] w w28 [(bm, 205, [.int .i64 (addj (j) (T.joins l rl))])] := st29
          refine ⟨hbr.ext st31.ext hnr, ?_⟩
          refine RS_e rfl rfl (ef_call (k := 147) (args := [.pointer (some ⟨bt, 0, none⟩), .pointer (some ⟨gr, 0, none⟩), .pointer (some ⟨o1, 0, none⟩), .pointer prr]) (over_cr ⟨htb.ext st31.ext hnt, st31.get 0 rfl⟩ (hbr.ext st31.ext hnr) hi1 (hrr.to st31.ext hno) (by (try simp only [T.size] at *) <;> omega)) body_147 (by kernel_rfl)) ?_
          rintro _ w32 ⟨_, rfl, o2, rfl, ho2, hi2, ⟨-, hbj⟩, hx34⟩
          have st33 := st31.turned 0 rfl (.inl (by simp)) hbj hx34
          replace hi1 := hi1.to hx34 (NoNode.meter (st31.get 0 rfl))
          have st35 : St [bm] w w32 [(bm, 205, [.int .i64 (addj (addj (j) (T.joins l rl)) (T.joins (T.node e l rl) rr))])] := st33
          refine ⟨hbr.ext st35.ext hnr, ?_⟩
          refine RS_segP 1 [.p (.pointer (some ⟨o2, 0, none⟩))] [8] (by kernel_rfl) (by kernel_rfl) (by kernel_rfl) (fun _ => by kernel_rfl) (by kernel_rfl : pick _ _ = some [(8, .pointer (some ⟨o2, 0, none⟩))]) (fun _ => trivial) ?_
          refine RS_pick [8] (by kernel_rfl : pick _ _ = some [(8, .pointer (some ⟨o2, 0, none⟩))]) ?_
          refine RS_nil ?_
          refine n_then ?_
          refine W_ret ?_
          refine r_block <| r_then ?_
          have hbe := st35.get 0 rfl
          try simp only [addj_add] at hbe
          refine ret_of (P := Tryd.prog) (fn := Tryd.f148) (m := [(8, .pointer (some ⟨o2, 0, none⟩))]) (w := w32) (res1 rfl (rv_tmp rfl)) ?_
          -- return 0: .pointer (some ⟨o2, 0, none⟩)
          exact ⟨o2, rfl, hi2, ⟨htb.ext st35.ext hnt, by simpa [Nat.add_assoc] using hbe⟩, st35.ext⟩
        · simp only [if_neg hC]
          rw [decide_eq_false hC] at hcC
          cases rl with
          | nil => simp [T.high] at hC
          | node me ml mr =>
            obtain ⟨gm, pml, pmr, rfl, hbm2, hml, hmr⟩ := id hrl
            have hnm : gm ∉ [bm] := by simpa using (hbm2.ne_ hT.m (by decide))
            refine CR_enter Tryd.func148 rfl Tryd.ntmps148 rfl ?_
            refine W_seq ?_
            refine W_region ?_
            refine RP_seg 1 [.p (.pointer none)] [0, 1, 2, 3] (by kernel_rfl) (fun _ => by kernel_rfl) (by kernel_rfl : pick _ _ = some [(0, .pointer (some ⟨bt, 0, none⟩)), (1, .pointer (some ⟨gx, 0, none⟩)), (2, .pointer pl), (3, .pointer (some ⟨gr, 0, none⟩))]) (trivial) ?_
            refine RP_pick [0, 1, 2, 3] (by kernel_rfl : pick _ _ = some [(0, .pointer (some ⟨bt, 0, none⟩)), (1, .pointer (some ⟨gx, 0, none⟩)), (2, .pointer pl), (3, .pointer (some ⟨gr, 0, none⟩))]) ?_
            refine RP_nil ?_
            refine n_then ?_
            refine W_seq ?_
            refine W_block ?_
            refine W_seq ?_
            -- region 1 draws: [(1, 0), (1, 2), (2, 1), (2, 3), (1, 4), (1, 5), (1, 6), (1, 7), (1, 8), (1, 9), (1, 10), (1, 12), (1, 13), (1, 14), (1, 15), (2, 11), (2, 16), (1, 17), (1, 18), (1, 19)]
            refine W_regionS (fun _ => True) [(1, 0), (1, 2), (2, 1), (2, 3), (1, 4), (1, 5), (1, 6), (1, 7), (1, 8), (1, 9), (1, 10), (1, 12), (1, 13), (1, 14), (1, 15), (2, 11), (2, 16), (1, 17), (1, 18), (1, 19)] 20 (by kernel_rfl) (by kernel_rfl) ?_
            have st1 := st.drew
            refine RS_seg 2 [.p (.pointer pl), .p (.pointer (some ⟨gr, 0, none⟩))] [0, 1, 2, 3, 12, 14] (by kernel_rfl) (by kernel_rfl) (trivial) (by kernel_rfl) (fun _ => by kernel_rfl) (by kernel_rfl : pick _ _ = some [(0, .pointer (some ⟨bt, 0, none⟩)), (1, .pointer (some ⟨gx, 0, none⟩)), (2, .pointer pl), (3, .pointer (some ⟨gr, 0, none⟩)), (12, .pointer pl), (14, .pointer (some ⟨gr, 0, none⟩))]) (fun _ hS => trivial) ?_
            refine RS_e rfl rfl (ef_call (k := 155) (args := [.pointer pl]) (high_cr (hl'.to st1.ext hno)) body_155 (by kernel_rfl)) ?_
            rintro _ _ ⟨_, rfl, rfl, rfl⟩
            refine ⟨trivial, ?_⟩
            refine RS_e rfl rfl (ef_call (k := 155) (args := [.pointer (some ⟨gr, 0, none⟩)]) (high_cr (hr'.to st1.ext hno)) body_155 (by kernel_rfl)) ?_
            rintro _ _ ⟨_, rfl, rfl, rfl⟩
            refine ⟨trivial, ?_⟩
            refine RS_seg 3 [.p (.int .i64 (IntKind.i64.wrap ((((T.node re (T.node me ml mr) rr).high : Nat) : Int) + 1))), .p (.bool (decide (((l.high : Nat) : Int) > (IntKind.i64.wrap ((((T.node re (T.node me ml mr) rr).high : Nat) : Int) + 1))))), .p (.bool (decide (((l.high : Nat) : Int) > (IntKind.i64.wrap ((((T.node re (T.node me ml mr) rr).high : Nat) : Int) + 1)))))] [0, 1, 2, 3, 18] (by kernel_rfl) (by kernel_rfl) (trivial) (by kernel_rfl) (fun _ => by kernel_rfl) (by kernel_rfl : pick _ _ = some [(0, .pointer (some ⟨bt, 0, none⟩)), (1, .pointer (some ⟨gx, 0, none⟩)), (2, .pointer pl), (3, .pointer (some ⟨gr, 0, none⟩)), (18, .bool (decide (((l.high : Nat) : Int) > (IntKind.i64.wrap ((((T.node re (T.node me ml mr) rr).high : Nat) : Int) + 1)))))]) (fun _ hS => trivial) ?_
            refine RS_at (m' := [(0, .pointer (some ⟨bt, 0, none⟩)), (1, .pointer (some ⟨gx, 0, none⟩)), (2, .pointer pl), (3, .pointer (some ⟨gr, 0, none⟩)), (18, .bool false)]) (by rw [hcA]) ?_
            refine RS_seg 8 [.no, .no, .no, .no, .no, .no, .no, .no] [0, 1, 2, 3, 18, 22, 27] (by kernel_rfl) (by kernel_rfl) (trivial) (by kernel_rfl) (fun _ => by kernel_rfl) (by kernel_rfl : pick _ _ = some [(0, .pointer (some ⟨bt, 0, none⟩)), (1, .pointer (some ⟨gx, 0, none⟩)), (2, .pointer pl), (3, .pointer (some ⟨gr, 0, none⟩)), (18, .bool false), (22, undef), (27, undef)]) (fun _ hS => trivial) ?_
            refine RS_noe rfl (fun d h => by injection h with h; subst h; rfl) rfl (by decide) (trivial) ?_
            refine RS_noe rfl (fun d h => by injection h with h; subst h; rfl) rfl (by decide) (trivial) ?_
            refine RS_seg 3 [.no, .p (.bool false), .p (.bool false)] [0, 1, 2, 3, 11] (by kernel_rfl) (by kernel_rfl) (trivial) (by kernel_rfl) (fun _ => by kernel_rfl) (by kernel_rfl : pick _ _ = some [(0, .pointer (some ⟨bt, 0, none⟩)), (1, .pointer (some ⟨gx, 0, none⟩)), (2, .pointer pl), (3, .pointer (some ⟨gr, 0, none⟩)), (11, .bool false)]) (fun _ hS => trivial) ?_
            refine RS_pick [0, 1, 2, 3, 11] (by kernel_rfl : pick _ _ = some [(0, .pointer (some ⟨bt, 0, none⟩)), (1, .pointer (some ⟨gx, 0, none⟩)), (2, .pointer pl), (3, .pointer (some ⟨gr, 0, none⟩)), (11, .bool false)]) ?_
            refine RS_nil ?_
            refine n_then ?_
            refine W_false rfl ?_
            refine W_seq ?_
            refine W_region ?_
            refine RP_seg 1 [.p (.pointer pl)] [0, 1, 2, 3, 47] (by kernel_rfl) (fun _ => by kernel_rfl) (by kernel_rfl : pick _ _ = some [(0, .pointer (some ⟨bt, 0, none⟩)), (1, .pointer (some ⟨gx, 0, none⟩)), (2, .pointer pl), (3, .pointer (some ⟨gr, 0, none⟩)), (47, .pointer pl)]) (trivial) ?_
            refine RP_e rfl (ef_call (k := 155) (args := [.pointer pl]) (high_cr (hl'.to st1.ext hno)) body_155 (by kernel_rfl)) ?_
            rintro _ _ ⟨_, rfl, rfl, rfl⟩
            refine RP_seg 1 [.p (.pointer (some ⟨gr, 0, none⟩))] [0, 1, 2, 3, 48, 49] (by kernel_rfl) (fun _ => by kernel_rfl) (by kernel_rfl : pick _ _ = some [(0, .pointer (some ⟨bt, 0, none⟩)), (1, .pointer (some ⟨gx, 0, none⟩)), (2, .pointer pl), (3, .pointer (some ⟨gr, 0, none⟩)), (48, .int .i64 ((l.high : Nat) : Int)), (49, .pointer (some ⟨gr, 0, none⟩))]) (trivial) ?_
            refine RP_e rfl (ef_call (k := 155) (args := [.pointer (some ⟨gr, 0, none⟩)]) (high_cr (hr'.to st1.ext hno)) body_155 (by kernel_rfl)) ?_
            rintro _ _ ⟨_, rfl, rfl, rfl⟩
            refine RP_seg 3 [.p (.int .i64 (IntKind.i64.wrap ((((T.node re (T.node me ml mr) rr).high : Nat) : Int) + 1))), .p (.bool (decide (((l.high : Nat) : Int) > (IntKind.i64.wrap ((((T.node re (T.node me ml mr) rr).high : Nat) : Int) + 1))))), .p (.bool (decide (((l.high : Nat) : Int) > (IntKind.i64.wrap ((((T.node re (T.node me ml mr) rr).high : Nat) : Int) + 1)))))] [0, 1, 2, 3, 46] (by kernel_rfl) (fun _ => by kernel_rfl) (by kernel_rfl : pick _ _ = some [(0, .pointer (some ⟨bt, 0, none⟩)), (1, .pointer (some ⟨gx, 0, none⟩)), (2, .pointer pl), (3, .pointer (some ⟨gr, 0, none⟩)), (46, .bool (decide (((l.high : Nat) : Int) > (IntKind.i64.wrap ((((T.node re (T.node me ml mr) rr).high : Nat) : Int) + 1)))))]) (trivial) ?_
            refine RP_pick [0, 1, 2, 3, 46] (by kernel_rfl : pick _ _ = some [(0, .pointer (some ⟨bt, 0, none⟩)), (1, .pointer (some ⟨gx, 0, none⟩)), (2, .pointer pl), (3, .pointer (some ⟨gr, 0, none⟩)), (46, .bool (decide (((l.high : Nat) : Int) > (IntKind.i64.wrap ((((T.node re (T.node me ml mr) rr).high : Nat) : Int) + 1)))))]) ?_
            refine RP_nil ?_
            refine n_then ?_
            refine W_false' rfl hcA ?_
            refine W_seq ?_
            -- region 6 draws: [(1, 0), (1, 2), (2, 1), (2, 3), (1, 4), (1, 5), (1, 6), (1, 7), (1, 8), (1, 9), (1, 10), (1, 12), (1, 13), (1, 14), (1, 15), (2, 11), (2, 16), (1, 17), (1, 18), (1, 19)]
            refine W_regionS (fun w' => Blk w' gr 181 [.string re.key, .string re.key, .int .i64 re.c, .int .i64 re.n, .string re.val, .bool re.dead, .int .i64 re.tal.k, .int .u64 re.tal.a, .int .u64 re.tal.b, .int .i64 ((T.node re (T.node me ml mr) rr).sum.k), .int .u64 ((T.node re (T.node me ml mr) rr).sum.a), .int .u64 ((T.node re (T.node me ml mr) rr).sum.b), .pointer (some ⟨gm, 0, none⟩), .pointer prr, .int .i64 (((T.node re (T.node me ml mr) rr).size : Nat) : Int), .int .i64 (((T.node re (T.node me ml mr) rr).high : Nat) : Int)].toArray) [(1, 0), (1, 2), (2, 1), (2, 3), (1, 4), (1, 5), (1, 6), (1, 7), (1, 8), (1, 9), (1, 10), (1, 12), (1, 13), (1, 14), (1, 15), (2, 11), (2, 16), (1, 17), (1, 18), (1, 19)] 20 (by kernel_rfl) (by kernel_rfl) ?_
            have st14 := st1.drew
            refine RS_seg 2 [.p (.pointer (some ⟨gr, 0, none⟩)), .p (.pointer pl)] [0, 1, 2, 3, 80, 82] (by kernel_rfl) (by kernel_rfl) (hbr.ext st14.ext hnr) (by kernel_rfl) (fun _ => by kernel_rfl) (by kernel_rfl : pick _ _ = some [(0, .pointer (some ⟨bt, 0, none⟩)), (1, .pointer (some ⟨gx, 0, none⟩)), (2, .pointer pl), (3, .pointer (some ⟨gr, 0, none⟩)), (80, .pointer (some ⟨gr, 0, none⟩)), (82, .pointer pl)]) (fun _ hS => trivial) ?_
            refine RS_e rfl rfl (ef_call (k := 155) (args := [.pointer (some ⟨gr, 0, none⟩)]) (high_cr (hr'.to st14.ext hno)) body_155 (by kernel_rfl)) ?_
            rintro _ _ ⟨_, rfl, rfl, rfl⟩
            refine ⟨hbr.ext st14.ext hnr, ?_⟩
            refine RS_e rfl rfl (ef_call (k := 155) (args := [.pointer pl]) (high_cr (hl'.to st14.ext hno)) body_155 (by kernel_rfl)) ?_
            rintro _ _ ⟨_, rfl, rfl, rfl⟩
            refine ⟨hbr.ext st14.ext hnr, ?_⟩
            refine RS_seg 3 [.p (.int .i64 (IntKind.i64.wrap (((l.high : Nat) : Int) + 1))), .p (.bool (decide ((((T.node re (T.node me ml mr) rr).high : Nat) : Int) > (IntKind.i64.wrap (((l.high : Nat) : Int) + 1))))), .p (.bool (decide ((((T.node re (T.node me ml mr) rr).high : Nat) : Int) > (IntKind.i64.wrap (((l.high : Nat) : Int) + 1)))))] [0, 1, 2, 3, 86] (by kernel_rfl) (by kernel_rfl) (hbr.ext st14.ext hnr) (by kernel_rfl) (fun _ => by kernel_rfl) (by kernel_rfl : pick _ _ = some [(0, .pointer (some ⟨bt, 0, none⟩)), (1, .pointer (some ⟨gx, 0, none⟩)), (2, .pointer pl), (3, .pointer (some ⟨gr, 0, none⟩)), (86, .bool (decide ((((T.node re (T.node me ml mr) rr).high : Nat) : Int) > (IntKind.i64.wrap (((l.high : Nat) : Int) + 1)))))]) (fun _ hS => trivial) ?_
            refine RS_at (m' := [(0, .pointer (some ⟨bt, 0, none⟩)), (1, .pointer (some ⟨gx, 0, none⟩)), (2, .pointer pl), (3, .pointer (some ⟨gr, 0, none⟩)), (86, .bool true)]) (by rw [hcB]) ?_
            refine RS_seg 8 [.p (.pointer (some ⟨gr, 0, none⟩)), .p (.pointer (some ⟨gr, 0, none⟩)), .p (.pointer (some ⟨gr, 13, none⟩)), .l 177 (.pointer (some ⟨gr, 13, none⟩)) (.pointer prr), .p (.pointer (some ⟨gr, 0, none⟩)), .p (.pointer (some ⟨gr, 0, none⟩)), .p (.pointer (some ⟨gr, 12, none⟩)), .l 177 (.pointer (some ⟨gr, 12, none⟩)) (.pointer (some ⟨gm, 0, none⟩))] [0, 1, 2, 3, 86, 90, 95] (by kernel_rfl) (by kernel_rfl) (hbr.ext st14.ext hnr) (by kernel_rfl) (fun _ => by kernel_rfl) (by kernel_rfl : pick _ _ = some [(0, .pointer (some ⟨bt, 0, none⟩)), (1, .pointer (some ⟨gx, 0, none⟩)), (2, .pointer pl), (3, .pointer (some ⟨gr, 0, none⟩)), (86, .bool true), (90, .pointer prr), (95, .pointer (some ⟨gm, 0, none⟩))]) (fun _ hS => ⟨ld1b (hS) nagg_177 rfl, ld1b (hS) nagg_177 rfl, trivial⟩) ?_
            refine RS_ge rfl rfl rfl (ef_call (k := 155) (args := [.pointer prr]) (high_cr (hrr.to st14.ext hno)) body_155 (by kernel_rfl)) ?_
            rintro _ _ ⟨_, rfl, rfl, rfl⟩
            refine ⟨hbr.ext st14.ext hnr, ?_⟩
            refine RS_ge rfl rfl rfl (ef_call (k := 155) (args := [.pointer (some ⟨gm, 0, none⟩)]) (high_cr (hrl.to st14.ext hno)) body_155 (by kernel_rfl)) ?_
            rintro _ _ ⟨_, rfl, rfl, rfl⟩
            refine ⟨hbr.ext st14.ext hnr, ?_⟩
            refine RS_seg 3 [.p (.bool (decide (((rr.high : Nat) : Int) ≥ (((T.node me ml mr).high : Nat) : Int)))), .p (.bool (decide (((rr.high : Nat) : Int) ≥ (((T.node me ml mr).high : Nat) : Int)))), .p (.bool (decide (((rr.high : Nat) : Int) ≥ (((T.node me ml mr).high : Nat) : Int))))] [0, 1, 2, 3, 79] (by kernel_rfl) (by kernel_rfl) (hbr.ext st14.ext hnr) (by kernel_rfl) (fun _ => by kernel_rfl) (by kernel_rfl : pick _ _ = some [(0, .pointer (some ⟨bt, 0, none⟩)), (1, .pointer (some ⟨gx, 0, none⟩)), (2, .pointer pl), (3, .pointer (some ⟨gr, 0, none⟩)), (79, .bool (decide (((rr.high : Nat) : Int) ≥ (((T.node me ml mr).high : Nat) : Int))))]) (fun _ hS => trivial) ?_
            refine RS_pick [0, 1, 2, 3, 79] (by kernel_rfl : pick _ _ = some [(0, .pointer (some ⟨bt, 0, none⟩)), (1, .pointer (some ⟨gx, 0, none⟩)), (2, .pointer pl), (3, .pointer (some ⟨gr, 0, none⟩)), (79, .bool (decide (((rr.high : Nat) : Int) ≥ (((T.node me ml mr).high : Nat) : Int))))]) ?_
            refine RS_nil ?_
            refine n_then ?_
            refine W_false' rfl hcC ?_
            refine W_seq ?_
            refine W_region ?_
            refine RP_seg 1 [.p (.pointer (some ⟨gr, 0, none⟩))] [0, 1, 2, 3, 115] (by kernel_rfl) (fun _ => by kernel_rfl) (by kernel_rfl : pick _ _ = some [(0, .pointer (some ⟨bt, 0, none⟩)), (1, .pointer (some ⟨gx, 0, none⟩)), (2, .pointer pl), (3, .pointer (some ⟨gr, 0, none⟩)), (115, .pointer (some ⟨gr, 0, none⟩))]) (trivial) ?_
            refine RP_e rfl (ef_call (k := 155) (args := [.pointer (some ⟨gr, 0, none⟩)]) (high_cr (hr'.to st14.ext hno)) body_155 (by kernel_rfl)) ?_
            rintro _ _ ⟨_, rfl, rfl, rfl⟩
            refine RP_seg 1 [.p (.pointer pl)] [0, 1, 2, 3, 116, 117] (by kernel_rfl) (fun _ => by kernel_rfl) (by kernel_rfl : pick _ _ = some [(0, .pointer (some ⟨bt, 0, none⟩)), (1, .pointer (some ⟨gx, 0, none⟩)), (2, .pointer pl), (3, .pointer (some ⟨gr, 0, none⟩)), (116, .int .i64 (((T.node re (T.node me ml mr) rr).high : Nat) : Int)), (117, .pointer pl)]) (trivial) ?_
            refine RP_e rfl (ef_call (k := 155) (args := [.pointer pl]) (high_cr (hl'.to st14.ext hno)) body_155 (by kernel_rfl)) ?_
            rintro _ _ ⟨_, rfl, rfl, rfl⟩
            refine RP_seg 3 [.p (.int .i64 (IntKind.i64.wrap (((l.high : Nat) : Int) + 1))), .p (.bool (decide ((((T.node re (T.node me ml mr) rr).high : Nat) : Int) > (IntKind.i64.wrap (((l.high : Nat) : Int) + 1))))), .p (.bool (decide ((((T.node re (T.node me ml mr) rr).high : Nat) : Int) > (IntKind.i64.wrap (((l.high : Nat) : Int) + 1)))))] [0, 1, 2, 3, 114] (by kernel_rfl) (fun _ => by kernel_rfl) (by kernel_rfl : pick _ _ = some [(0, .pointer (some ⟨bt, 0, none⟩)), (1, .pointer (some ⟨gx, 0, none⟩)), (2, .pointer pl), (3, .pointer (some ⟨gr, 0, none⟩)), (114, .bool (decide ((((T.node re (T.node me ml mr) rr).high : Nat) : Int) > (IntKind.i64.wrap (((l.high : Nat) : Int) + 1)))))]) (trivial) ?_
            refine RP_pick [0, 1, 2, 3, 114] (by kernel_rfl : pick _ _ = some [(0, .pointer (some ⟨bt, 0, none⟩)), (1, .pointer (some ⟨gx, 0, none⟩)), (2, .pointer pl), (3, .pointer (some ⟨gr, 0, none⟩)), (114, .bool (decide ((((T.node re (T.node me ml mr) rr).high : Nat) : Int) > (IntKind.i64.wrap (((l.high : Nat) : Int) + 1)))))]) ?_
            refine RP_nil ?_
            refine n_then ?_
            refine W_true' rfl hcB ?_
            refine W_seq ?_
            refine W_region ?_
            refine RP_seg 5 [.p (.pointer (some ⟨gr, 0, none⟩)), .p (.pointer (some ⟨gr, 0, none⟩)), .p (.pointer (some ⟨gr, 12, none⟩)), .l 177 (.pointer (some ⟨gr, 12, none⟩)) (.pointer (some ⟨gm, 0, none⟩)), .p (.pointer (some ⟨gm, 0, none⟩))] [0, 1, 2, 3, 10] (by kernel_rfl) (fun _ => by kernel_rfl) (by kernel_rfl : pick _ _ = some [(0, .pointer (some ⟨bt, 0, none⟩)), (1, .pointer (some ⟨gx, 0, none⟩)), (2, .pointer pl), (3, .pointer (some ⟨gr, 0, none⟩)), (10, .pointer (some ⟨gm, 0, none⟩))]) ⟨ld1b (hbr.ext st14.ext hnr) nagg_177 rfl, trivial⟩ ?_
            refine RP_pick [0, 1, 2, 3, 10] (by kernel_rfl : pick _ _ = some [(0, .pointer (some ⟨bt, 0, none⟩)), (1, .pointer (some ⟨gx, 0, none⟩)), (2, .pointer pl), (3, .pointer (some ⟨gr, 0, none⟩)), (10, .pointer (some ⟨gm, 0, none⟩))]) ?_
            refine RP_nil ?_
            refine n_then ?_
            refine W_seq ?_
            -- region 10 draws: [(1, 0), (1, 1), (1, 2), (1, 3), (1, 4), (1, 5), (1, 6), (1, 7), (1, 8), (1, 10), (1, 11), (1, 12), (1, 13), (1, 14), (1, 15), (1, 16), (1, 17), (1, 18), (1, 19), (2, 9), (2, 20), (2, 21), (0, 22)]
            refine W_regionS (fun w' => Blk w' gr 181 [.string re.key, .string re.key, .int .i64 re.c, .int .i64 re.n, .string re.val, .bool re.dead, .int .i64 re.tal.k, .int .u64 re.tal.a, .int .u64 re.tal.b, .int .i64 ((T.node re (T.node me ml mr) rr).sum.k), .int .u64 ((T.node re (T.node me ml mr) rr).sum.a), .int .u64 ((T.node re (T.node me ml mr) rr).sum.b), .pointer (some ⟨gm, 0, none⟩), .pointer prr, .int .i64 (((T.node re (T.node me ml mr) rr).size : Nat) : Int), .int .i64 (((T.node re (T.node me ml mr) rr).high : Nat) : Int)].toArray ∧ Blk w' gm 181 [.string me.key, .string me.key, .int .i64 me.c, .int .i64 me.n, .string me.val, .bool me.dead, .int .i64 me.tal.k, .int .u64 me.tal.a, .int .u64 me.tal.b, .int .i64 ((T.node me ml mr).sum.k), .int .u64 ((T.node me ml mr).sum.a), .int .u64 ((T.node me ml mr).sum.b), .pointer pml, .pointer pmr, .int .i64 (((T.node me ml mr).size : Nat) : Int), .int .i64 (((T.node me ml mr).high : Nat) : Int)].toArray) [(1, 0), (1, 1), (1, 2), (1, 3), (1, 4), (1, 5), (1, 6), (1, 7), (1, 8), (1, 10), (1, 11), (1, 12), (1, 13), (1, 14), (1, 15), (1, 16), (1, 17), (1, 18), (1, 19), (2, 9), (2, 20), (2, 21), (0, 22)] 23 (by kernel_rfl) (by kernel_rfl) ?_
            have st33 := st14.drew
            refine RS_seg 19 [.p (.pointer (some ⟨bt, 0, none⟩)), .p (.pointer (some ⟨gm, 0, none⟩)), .p (.pointer (some ⟨bt, 0, none⟩)), .p (.pointer (some ⟨gx, 0, none⟩)), .p (.pointer pl), .p (.pointer (some ⟨gm, 0, none⟩)), .p (.pointer (some ⟨gm, 0, none⟩)), .p (.pointer (some ⟨gm, 12, none⟩)), .l 177 (.pointer (some ⟨gm, 12, none⟩)) (.pointer pml), .p (.pointer (some ⟨bt, 0, none⟩)), .p (.pointer (some ⟨gr, 0, none⟩)), .p (.pointer (some ⟨gm, 0, none⟩)), .p (.pointer (some ⟨gm, 0, none⟩)), .p (.pointer (some ⟨gm, 13, none⟩)), .l 177 (.pointer (some ⟨gm, 13, none⟩)) (.pointer pmr), .p (.pointer (some ⟨gr, 0, none⟩)), .p (.pointer (some ⟨gr, 0, none⟩)), .p (.pointer (some ⟨gr, 13, none⟩)), .l 177 (.pointer (some ⟨gr, 13, none⟩)) (.pointer prr)] [125, 126, 127, 128, 129, 133, 135, 136, 140, 144] (by kernel_rfl) (by kernel_rfl) (⟨hbr.ext st33.ext hnr, hbm2.ext st33.ext hnm⟩) (by kernel_rfl) (fun _ => by kernel_rfl) (by kernel_rfl : pick _ _ = some [(125, .pointer (some ⟨bt, 0, none⟩)), (126, .pointer (some ⟨gm, 0, none⟩)), (127, .pointer (some ⟨bt, 0, none⟩)), (128, .pointer (some ⟨gx, 0, none⟩)), (129, .pointer pl), (133, .pointer pml), (135, .pointer (some ⟨bt, 0, none⟩)), (136, .pointer (some ⟨gr, 0, none⟩)), (140, .pointer pmr), (144, .pointer prr)]) (fun _ hS => ⟨ld1b (hS.2) nagg_177 rfl, ld1b (hS.2) nagg_177 rfl, ld1b (hS.1) nagg_177 rfl, trivial⟩) ?_
            refine RS_e rfl rfl (ef_call (k := 147) (args := [.pointer (some ⟨bt, 0, none⟩), .pointer (some ⟨gx, 0, none⟩), .pointer pl, .pointer pml]) (over_cr ⟨htb.ext st33.ext hnt, st33.get 0 rfl⟩ (hx.ext st33.ext hnx) (hl'.to st33.ext hno) (hml.to st33.ext hno) (by (try simp only [T.size] at *) <;> omega)) body_147 (by kernel_rfl)) ?_
            rintro _ w34 ⟨_, rfl, o1, rfl, ho1, hi1, ⟨-, hbj⟩, hx36⟩
            have st35 := st33.turned 0 rfl (.inl (by simp)) hbj hx36
            have st37 : St [bm] w w34 [(bm, 205, [.int .i64 (addj (j) (T.joins l ml))])] := st35
            refine ⟨⟨hbr.ext st37.ext hnr, hbm2.ext st37.ext hnm⟩, ?_⟩
            refine RS_e rfl rfl (ef_call (k := 147) (args := [.pointer (some ⟨bt, 0, none⟩), .pointer (some ⟨gr, 0, none⟩), .pointer pmr, .pointer prr]) (over_cr ⟨htb.ext st37.ext hnt, st37.get 0 rfl⟩ (hbr.ext st37.ext hnr) (hmr.to st37.ext hno) (hrr.to st37.ext hno) (by (try simp only [T.size] at *) <;> omega)) body_147 (by kernel_rfl)) ?_
            rintro _ w38 ⟨_, rfl, o2, rfl, ho2, hi2, ⟨-, hbj⟩, hx40⟩
            have st39 := st37.turned 0 rfl (.inl (by simp)) hbj hx40
            replace hi1 := hi1.to hx40 (NoNode.meter (st37.get 0 rfl))
            have st41 : St [bm] w w38 [(bm, 205, [.int .i64 (addj (addj (j) (T.joins l ml)) (T.joins mr rr))])] := st39
            refine ⟨⟨hbr.ext st41.ext hnr, hbm2.ext st41.ext hnm⟩, ?_⟩
            refine RS_e rfl rfl (ef_call (k := 147) (args := [.pointer (some ⟨bt, 0, none⟩), .pointer (some ⟨gm, 0, none⟩), .pointer (some ⟨o1, 0, none⟩), .pointer (some ⟨o2, 0, none⟩)]) (over_cr ⟨htb.ext st41.ext hnt, st41.get 0 rfl⟩ (hbm2.ext st41.ext hnm) hi1 hi2 (by (try simp only [T.size] at *) <;> omega)) body_147 (by kernel_rfl)) ?_
            rintro _ w42 ⟨_, rfl, o3, rfl, ho3, hi3, ⟨-, hbj⟩, hx44⟩
            have st43 := st41.turned 0 rfl (.inl (by simp)) hbj hx44
            replace hi1 := hi1.to hx44 (NoNode.meter (st41.get 0 rfl))
            replace hi2 := hi2.to hx44 (NoNode.meter (st41.get 0 rfl))
            have st45 : St [bm] w w42 [(bm, 205, [.int .i64 (addj (addj (addj (j) (T.joins l ml)) (T.joins mr rr)) (2))])] := st43
            refine ⟨⟨hbr.ext st45.ext hnr, hbm2.ext st45.ext hnm⟩, ?_⟩
            refine RS_segP 1 [.p (.pointer (some ⟨o3, 0, none⟩))] [8] (by kernel_rfl) (by kernel_rfl) (by kernel_rfl) (fun _ => by kernel_rfl) (by kernel_rfl : pick _ _ = some [(8, .pointer (some ⟨o3, 0, none⟩))]) (fun _ => trivial) ?_
            refine RS_pick [8] (by kernel_rfl : pick _ _ = some [(8, .pointer (some ⟨o3, 0, none⟩))]) ?_
            refine RS_nil ?_
            refine n_then ?_
            refine W_ret ?_
            refine r_block <| r_then ?_
            have hbe := st45.get 0 rfl
            try simp only [addj_add] at hbe
            refine ret_of (P := Tryd.prog) (fn := Tryd.f148) (m := [(8, .pointer (some ⟨o3, 0, none⟩))]) (w := w42) (res1 rfl (rv_tmp rfl)) ?_
            -- return 0: .pointer (some ⟨o3, 0, none⟩)
            exact ⟨o3, rfl, hi3, ⟨htb.ext st45.ext hnt, by simpa [Nat.add_assoc] using hbe⟩, st45.ext⟩
    · rw [if_neg hB, if_neg hB]
      rw [decide_eq_false hB] at hcB
      refine CR_enter Tryd.func148 rfl Tryd.ntmps148 rfl ?_
      refine W_seq ?_
      refine W_region ?_
      refine RP_seg 1 [.p (.pointer none)] [0, 1, 2, 3] (by kernel_rfl) (fun _ => by kernel_rfl) (by kernel_rfl : pick _ _ = some [(0, .pointer (some ⟨bt, 0, none⟩)), (1, .pointer (some ⟨gx, 0, none⟩)), (2, .pointer pl), (3, .pointer pr)]) (trivial) ?_
      refine RP_pick [0, 1, 2, 3] (by kernel_rfl : pick _ _ = some [(0, .pointer (some ⟨bt, 0, none⟩)), (1, .pointer (some ⟨gx, 0, none⟩)), (2, .pointer pl), (3, .pointer pr)]) ?_
      refine RP_nil ?_
      refine n_then ?_
      refine W_seq ?_
      refine W_block ?_
      refine W_seq ?_
      -- region 1 draws: [(1, 0), (1, 2), (2, 1), (2, 3), (1, 4), (1, 5), (1, 6), (1, 7), (1, 8), (1, 9), (1, 10), (1, 12), (1, 13), (1, 14), (1, 15), (2, 11), (2, 16), (1, 17), (1, 18), (1, 19)]
      refine W_regionS (fun _ => True) [(1, 0), (1, 2), (2, 1), (2, 3), (1, 4), (1, 5), (1, 6), (1, 7), (1, 8), (1, 9), (1, 10), (1, 12), (1, 13), (1, 14), (1, 15), (2, 11), (2, 16), (1, 17), (1, 18), (1, 19)] 20 (by kernel_rfl) (by kernel_rfl) ?_
      have st1 := st.drew
      refine RS_seg 2 [.p (.pointer pl), .p (.pointer pr)] [0, 1, 2, 3, 12, 14] (by kernel_rfl) (by kernel_rfl) (trivial) (by kernel_rfl) (fun _ => by kernel_rfl) (by kernel_rfl : pick _ _ = some [(0, .pointer (some ⟨bt, 0, none⟩)), (1, .pointer (some ⟨gx, 0, none⟩)), (2, .pointer pl), (3, .pointer pr), (12, .pointer pl), (14, .pointer pr)]) (fun _ hS => trivial) ?_
      refine RS_e rfl rfl (ef_call (k := 155) (args := [.pointer pl]) (high_cr (hl'.to st1.ext hno)) body_155 (by kernel_rfl)) ?_
      rintro _ _ ⟨_, rfl, rfl, rfl⟩
      refine ⟨trivial, ?_⟩
      refine RS_e rfl rfl (ef_call (k := 155) (args := [.pointer pr]) (high_cr (hr'.to st1.ext hno)) body_155 (by kernel_rfl)) ?_
      rintro _ _ ⟨_, rfl, rfl, rfl⟩
      refine ⟨trivial, ?_⟩
      refine RS_seg 3 [.p (.int .i64 (IntKind.i64.wrap (((r.high : Nat) : Int) + 1))), .p (.bool (decide (((l.high : Nat) : Int) > (IntKind.i64.wrap (((r.high : Nat) : Int) + 1))))), .p (.bool (decide (((l.high : Nat) : Int) > (IntKind.i64.wrap (((r.high : Nat) : Int) + 1)))))] [0, 1, 2, 3, 18] (by kernel_rfl) (by kernel_rfl) (trivial) (by kernel_rfl) (fun _ => by kernel_rfl) (by kernel_rfl : pick _ _ = some [(0, .pointer (some ⟨bt, 0, none⟩)), (1, .pointer (some ⟨gx, 0, none⟩)), (2, .pointer pl), (3, .pointer pr), (18, .bool (decide (((l.high : Nat) : Int) > (IntKind.i64.wrap (((r.high : Nat) : Int) + 1)))))]) (fun _ hS => trivial) ?_
      refine RS_at (m' := [(0, .pointer (some ⟨bt, 0, none⟩)), (1, .pointer (some ⟨gx, 0, none⟩)), (2, .pointer pl), (3, .pointer pr), (18, .bool false)]) (by rw [hcA]) ?_
      refine RS_seg 8 [.no, .no, .no, .no, .no, .no, .no, .no] [0, 1, 2, 3, 18, 22, 27] (by kernel_rfl) (by kernel_rfl) (trivial) (by kernel_rfl) (fun _ => by kernel_rfl) (by kernel_rfl : pick _ _ = some [(0, .pointer (some ⟨bt, 0, none⟩)), (1, .pointer (some ⟨gx, 0, none⟩)), (2, .pointer pl), (3, .pointer pr), (18, .bool false), (22, undef), (27, undef)]) (fun _ hS => trivial) ?_
      refine RS_noe rfl (fun d h => by injection h with h; subst h; rfl) rfl (by decide) (trivial) ?_
      refine RS_noe rfl (fun d h => by injection h with h; subst h; rfl) rfl (by decide) (trivial) ?_
      refine RS_seg 3 [.no, .p (.bool false), .p (.bool false)] [0, 1, 2, 3, 11] (by kernel_rfl) (by kernel_rfl) (trivial) (by kernel_rfl) (fun _ => by kernel_rfl) (by kernel_rfl : pick _ _ = some [(0, .pointer (some ⟨bt, 0, none⟩)), (1, .pointer (some ⟨gx, 0, none⟩)), (2, .pointer pl), (3, .pointer pr), (11, .bool false)]) (fun _ hS => trivial) ?_
      refine RS_pick [0, 1, 2, 3, 11] (by kernel_rfl : pick _ _ = some [(0, .pointer (some ⟨bt, 0, none⟩)), (1, .pointer (some ⟨gx, 0, none⟩)), (2, .pointer pl), (3, .pointer pr), (11, .bool false)]) ?_
      refine RS_nil ?_
      refine n_then ?_
      refine W_false rfl ?_
      refine W_seq ?_
      refine W_region ?_
      refine RP_seg 1 [.p (.pointer pl)] [0, 1, 2, 3, 47] (by kernel_rfl) (fun _ => by kernel_rfl) (by kernel_rfl : pick _ _ = some [(0, .pointer (some ⟨bt, 0, none⟩)), (1, .pointer (some ⟨gx, 0, none⟩)), (2, .pointer pl), (3, .pointer pr), (47, .pointer pl)]) (trivial) ?_
      refine RP_e rfl (ef_call (k := 155) (args := [.pointer pl]) (high_cr (hl'.to st1.ext hno)) body_155 (by kernel_rfl)) ?_
      rintro _ _ ⟨_, rfl, rfl, rfl⟩
      refine RP_seg 1 [.p (.pointer pr)] [0, 1, 2, 3, 48, 49] (by kernel_rfl) (fun _ => by kernel_rfl) (by kernel_rfl : pick _ _ = some [(0, .pointer (some ⟨bt, 0, none⟩)), (1, .pointer (some ⟨gx, 0, none⟩)), (2, .pointer pl), (3, .pointer pr), (48, .int .i64 ((l.high : Nat) : Int)), (49, .pointer pr)]) (trivial) ?_
      refine RP_e rfl (ef_call (k := 155) (args := [.pointer pr]) (high_cr (hr'.to st1.ext hno)) body_155 (by kernel_rfl)) ?_
      rintro _ _ ⟨_, rfl, rfl, rfl⟩
      refine RP_seg 3 [.p (.int .i64 (IntKind.i64.wrap (((r.high : Nat) : Int) + 1))), .p (.bool (decide (((l.high : Nat) : Int) > (IntKind.i64.wrap (((r.high : Nat) : Int) + 1))))), .p (.bool (decide (((l.high : Nat) : Int) > (IntKind.i64.wrap (((r.high : Nat) : Int) + 1)))))] [0, 1, 2, 3, 46] (by kernel_rfl) (fun _ => by kernel_rfl) (by kernel_rfl : pick _ _ = some [(0, .pointer (some ⟨bt, 0, none⟩)), (1, .pointer (some ⟨gx, 0, none⟩)), (2, .pointer pl), (3, .pointer pr), (46, .bool (decide (((l.high : Nat) : Int) > (IntKind.i64.wrap (((r.high : Nat) : Int) + 1)))))]) (trivial) ?_
      refine RP_pick [0, 1, 2, 3, 46] (by kernel_rfl : pick _ _ = some [(0, .pointer (some ⟨bt, 0, none⟩)), (1, .pointer (some ⟨gx, 0, none⟩)), (2, .pointer pl), (3, .pointer pr), (46, .bool (decide (((l.high : Nat) : Int) > (IntKind.i64.wrap (((r.high : Nat) : Int) + 1)))))]) ?_
      refine RP_nil ?_
      refine n_then ?_
      refine W_false' rfl hcA ?_
      refine W_seq ?_
      -- region 6 draws: [(1, 0), (1, 2), (2, 1), (2, 3), (1, 4), (1, 5), (1, 6), (1, 7), (1, 8), (1, 9), (1, 10), (1, 12), (1, 13), (1, 14), (1, 15), (2, 11), (2, 16), (1, 17), (1, 18), (1, 19)]
      refine W_regionS (fun _ => True) [(1, 0), (1, 2), (2, 1), (2, 3), (1, 4), (1, 5), (1, 6), (1, 7), (1, 8), (1, 9), (1, 10), (1, 12), (1, 13), (1, 14), (1, 15), (2, 11), (2, 16), (1, 17), (1, 18), (1, 19)] 20 (by kernel_rfl) (by kernel_rfl) ?_
      have st14 := st1.drew
      refine RS_seg 2 [.p (.pointer pr), .p (.pointer pl)] [0, 1, 2, 3, 80, 82] (by kernel_rfl) (by kernel_rfl) (trivial) (by kernel_rfl) (fun _ => by kernel_rfl) (by kernel_rfl : pick _ _ = some [(0, .pointer (some ⟨bt, 0, none⟩)), (1, .pointer (some ⟨gx, 0, none⟩)), (2, .pointer pl), (3, .pointer pr), (80, .pointer pr), (82, .pointer pl)]) (fun _ hS => trivial) ?_
      refine RS_e rfl rfl (ef_call (k := 155) (args := [.pointer pr]) (high_cr (hr'.to st14.ext hno)) body_155 (by kernel_rfl)) ?_
      rintro _ _ ⟨_, rfl, rfl, rfl⟩
      refine ⟨trivial, ?_⟩
      refine RS_e rfl rfl (ef_call (k := 155) (args := [.pointer pl]) (high_cr (hl'.to st14.ext hno)) body_155 (by kernel_rfl)) ?_
      rintro _ _ ⟨_, rfl, rfl, rfl⟩
      refine ⟨trivial, ?_⟩
      refine RS_seg 3 [.p (.int .i64 (IntKind.i64.wrap (((l.high : Nat) : Int) + 1))), .p (.bool (decide (((r.high : Nat) : Int) > (IntKind.i64.wrap (((l.high : Nat) : Int) + 1))))), .p (.bool (decide (((r.high : Nat) : Int) > (IntKind.i64.wrap (((l.high : Nat) : Int) + 1)))))] [0, 1, 2, 3, 86] (by kernel_rfl) (by kernel_rfl) (trivial) (by kernel_rfl) (fun _ => by kernel_rfl) (by kernel_rfl : pick _ _ = some [(0, .pointer (some ⟨bt, 0, none⟩)), (1, .pointer (some ⟨gx, 0, none⟩)), (2, .pointer pl), (3, .pointer pr), (86, .bool (decide (((r.high : Nat) : Int) > (IntKind.i64.wrap (((l.high : Nat) : Int) + 1)))))]) (fun _ hS => trivial) ?_
      refine RS_at (m' := [(0, .pointer (some ⟨bt, 0, none⟩)), (1, .pointer (some ⟨gx, 0, none⟩)), (2, .pointer pl), (3, .pointer pr), (86, .bool false)]) (by rw [hcB]) ?_
      refine RS_seg 8 [.no, .no, .no, .no, .no, .no, .no, .no] [0, 1, 2, 3, 86, 90, 95] (by kernel_rfl) (by kernel_rfl) (trivial) (by kernel_rfl) (fun _ => by kernel_rfl) (by kernel_rfl : pick _ _ = some [(0, .pointer (some ⟨bt, 0, none⟩)), (1, .pointer (some ⟨gx, 0, none⟩)), (2, .pointer pl), (3, .pointer pr), (86, .bool false), (90, undef), (95, undef)]) (fun _ hS => trivial) ?_
      refine RS_noe rfl (fun d h => by injection h with h; subst h; rfl) rfl (by decide) (trivial) ?_
      refine RS_noe rfl (fun d h => by injection h with h; subst h; rfl) rfl (by decide) (trivial) ?_
      refine RS_seg 3 [.no, .p (.bool false), .p (.bool false)] [0, 1, 2, 3, 79] (by kernel_rfl) (by kernel_rfl) (trivial) (by kernel_rfl) (fun _ => by kernel_rfl) (by kernel_rfl : pick _ _ = some [(0, .pointer (some ⟨bt, 0, none⟩)), (1, .pointer (some ⟨gx, 0, none⟩)), (2, .pointer pl), (3, .pointer pr), (79, .bool false)]) (fun _ hS => trivial) ?_
      refine RS_pick [0, 1, 2, 3, 79] (by kernel_rfl : pick _ _ = some [(0, .pointer (some ⟨bt, 0, none⟩)), (1, .pointer (some ⟨gx, 0, none⟩)), (2, .pointer pl), (3, .pointer pr), (79, .bool false)]) ?_
      refine RS_nil ?_
      refine n_then ?_
      refine W_false rfl ?_
      refine W_seq ?_
      refine W_region ?_
      refine RP_seg 1 [.p (.pointer pr)] [0, 1, 2, 3, 115] (by kernel_rfl) (fun _ => by kernel_rfl) (by kernel_rfl : pick _ _ = some [(0, .pointer (some ⟨bt, 0, none⟩)), (1, .pointer (some ⟨gx, 0, none⟩)), (2, .pointer pl), (3, .pointer pr), (115, .pointer pr)]) (trivial) ?_
      refine RP_e rfl (ef_call (k := 155) (args := [.pointer pr]) (high_cr (hr'.to st14.ext hno)) body_155 (by kernel_rfl)) ?_
      rintro _ _ ⟨_, rfl, rfl, rfl⟩
      refine RP_seg 1 [.p (.pointer pl)] [0, 1, 2, 3, 116, 117] (by kernel_rfl) (fun _ => by kernel_rfl) (by kernel_rfl : pick _ _ = some [(0, .pointer (some ⟨bt, 0, none⟩)), (1, .pointer (some ⟨gx, 0, none⟩)), (2, .pointer pl), (3, .pointer pr), (116, .int .i64 ((r.high : Nat) : Int)), (117, .pointer pl)]) (trivial) ?_
      refine RP_e rfl (ef_call (k := 155) (args := [.pointer pl]) (high_cr (hl'.to st14.ext hno)) body_155 (by kernel_rfl)) ?_
      rintro _ _ ⟨_, rfl, rfl, rfl⟩
      refine RP_seg 3 [.p (.int .i64 (IntKind.i64.wrap (((l.high : Nat) : Int) + 1))), .p (.bool (decide (((r.high : Nat) : Int) > (IntKind.i64.wrap (((l.high : Nat) : Int) + 1))))), .p (.bool (decide (((r.high : Nat) : Int) > (IntKind.i64.wrap (((l.high : Nat) : Int) + 1)))))] [0, 1, 2, 3, 114] (by kernel_rfl) (fun _ => by kernel_rfl) (by kernel_rfl : pick _ _ = some [(0, .pointer (some ⟨bt, 0, none⟩)), (1, .pointer (some ⟨gx, 0, none⟩)), (2, .pointer pl), (3, .pointer pr), (114, .bool (decide (((r.high : Nat) : Int) > (IntKind.i64.wrap (((l.high : Nat) : Int) + 1)))))]) (trivial) ?_
      refine RP_pick [0, 1, 2, 3, 114] (by kernel_rfl : pick _ _ = some [(0, .pointer (some ⟨bt, 0, none⟩)), (1, .pointer (some ⟨gx, 0, none⟩)), (2, .pointer pl), (3, .pointer pr), (114, .bool (decide (((r.high : Nat) : Int) > (IntKind.i64.wrap (((l.high : Nat) : Int) + 1)))))]) ?_
      refine RP_nil ?_
      refine n_then ?_
      refine W_false' rfl hcB ?_
      refine W_skip ?_
      refine n_block ?_
      refine n_then ?_
      refine W_seq ?_
      refine W_region ?_
      refine RP_seg 4 [.p (.pointer (some ⟨bt, 0, none⟩)), .p (.pointer (some ⟨gx, 0, none⟩)), .p (.pointer pl), .p (.pointer pr)] [147, 148, 149, 150] (by kernel_rfl) (fun _ => by kernel_rfl) (by kernel_rfl : pick _ _ = some [(147, .pointer (some ⟨bt, 0, none⟩)), (148, .pointer (some ⟨gx, 0, none⟩)), (149, .pointer pl), (150, .pointer pr)]) (trivial) ?_
      refine RP_e rfl (ef_call (k := 147) (args := [.pointer (some ⟨bt, 0, none⟩), .pointer (some ⟨gx, 0, none⟩), .pointer pl, .pointer pr]) (over_cr ⟨htb.ext st14.ext hnt, st14.get 0 rfl⟩ (hx.ext st14.ext hnx) (hl'.to st14.ext hno) (hr'.to st14.ext hno) (by (try simp only [T.size] at *) <;> omega)) body_147 (by kernel_rfl)) ?_
      rintro _ w27 ⟨_, rfl, o1, rfl, ho1, hi1, ⟨-, hbj⟩, hx29⟩
      have st28 := st14.turned 0 rfl (.inl (by simp)) hbj hx29
      have st30 : St [bm] w w27 [(bm, 205, [.int .i64 (addj (j) (T.joins l r))])] := st28
      refine RP_seg 1 [.p (.pointer (some ⟨o1, 0, none⟩))] [8] (by kernel_rfl) (fun _ => by kernel_rfl) (by kernel_rfl : pick _ _ = some [(8, .pointer (some ⟨o1, 0, none⟩))]) (trivial) ?_
      refine RP_pick [8] (by kernel_rfl : pick _ _ = some [(8, .pointer (some ⟨o1, 0, none⟩))]) ?_
      refine RP_nil ?_
      refine n_then ?_
      refine W_ret ?_
      have hbe := st30.get 0 rfl
      try simp only [addj_add] at hbe
      refine ret_of (P := Tryd.prog) (fn := Tryd.f148) (m := [(8, .pointer (some ⟨o1, 0, none⟩))]) (w := w27) (res1 rfl (rv_tmp rfl)) ?_
      -- return 0: .pointer (some ⟨o1, 0, none⟩)
      exact ⟨o1, rfl, hi1, ⟨htb.ext st30.ext hnt, by simpa [Nat.add_assoc] using hbe⟩, st30.ext⟩
end Go.Proofs.YtcopemgkjbaaeaaDoor
