import Derived.Test.YtcopemgkjbaaeaaDoorMm1
import Derived.Laws.BitsLemmas
import Derived.Laws.Bits64
namespace Go.Proofs.YtcopemgkjbaaeaaDoor
set_option linter.all false
open Go.RowKit
def T.evenJ (e : Ent) (l r : T) : Nat :=
  if r.high + 1 < l.high then
    match l with
    | .nil => 0
    | .node _ ll lr =>
      if lr.high ≤ ll.high then T.joins lr r + T.joins ll (.node e lr r)
      else match lr with
        | .nil => 0
        | .node _ ml mr => T.joins ll ml + T.joins mr r + 2
  else if l.high + 1 < r.high then
    match r with
    | .nil => 0
    | .node _ rl rr =>
      if rl.high ≤ rr.high then T.joins l rl + T.joins (.node e l rl) rr
      else match rl with
        | .nil => 0
        | .node _ ml mr => T.joins l ml + T.joins mr rr + 2
  else T.joins l r
theorem high_gt {l r : Nat} (hr : r ≤ 1000000) : decide (((l : Nat) : Int) > IntKind.i64.wrap (((r : Nat) : Int) + 1)) = decide (r + 1 < l) := by
  rw [wrap_small (by omega) (by omega)]; simp only [gt_iff_lt, decide_eq_decide]; omega
theorem high_ge {l r : Nat} : decide (((l : Nat) : Int) ≥ ((r : Nat) : Int)) = decide (r ≤ l) := by
  simp only [ge_iff_le, decide_eq_decide]; omega
theorem even_cr {w : World} {bt bm : Nat} {j : Int} {p pl pr : Option Addr} {gx : Nat} {e : Ent} {s : Tal} {ql qr : Option Addr} {m0 h0 : Int} {l r : T}
    (hT : Tr w bt bm j p) (hx : Blk w gx 181 (nodeCells e s ql qr m0 h0)) (hl : IsT w pl l) (hr : IsT w pr r) (hs : l.size + r.size ≤ 100000) :
    CR Tryd.prog 148 [.pointer (some ⟨bt, 0, none⟩), .pointer (some ⟨gx, 0, none⟩), .pointer pl, .pointer pr] w fun v w' =>
      ∃ g, v = .pointer (some ⟨g, 0, none⟩) ∧ IsT w' (some ⟨g, 0, none⟩) (T.even e l r) ∧ Tr w' bt bm (addj j (T.evenJ e l r)) p ∧ Ext [bm] w w' := by
  have hl1 := l.high_le_size
  have hr1 := r.high_le_size
  have hnt : bt ∉ [bm] := by simpa using hT.ne
  have hnx : gx ∉ [bm] := by simpa using (hx.ne_ hT.m (by decide))
  have hno := NoNode.meter hT.m
  have st := (St.init w [bm]).add hT.m (by simp)
  have htb := hT.t
  have hcA := high_gt (l := l.high) (r := r.high) (by omega)
  have hcB := high_gt (l := r.high) (r := l.high) (by omega)
  have hl' := hl
  have hr' := hr
  unfold T.even T.evenJ
  by_cases hA : r.high + 1 < l.high
  · rw [if_pos hA, if_pos hA]
    rw [decide_eq_true hA] at hcA
    rw [decide_eq_false (show ¬ l.high + 1 < r.high by omega)] at hcB
    cases l with
    | nil => simp [T.high] at hA
    | node le ll lr =>
      obtain ⟨gl, pll, plr, rfl, hbl, hll, hlr⟩ := hl
      have hnl : gl ∉ [bm] := by simpa using (hbl.ne_ hT.m (by decide))
      have hcC := high_ge (l := ll.high) (r := lr.high)
      by_cases hC : lr.high ≤ ll.high
      · simp only [if_pos hC]
        rw [decide_eq_true hC] at hcC
        refine CR_enter Tryd.func148 rfl Tryd.ntmps148 rfl ?_
        refine W_seq <| W_region ?_
        let a1 : Value := .pointer (some ⟨bt, 0, none⟩)
        let a2 : Value := .pointer (some ⟨gx, 0, none⟩)
        let a3 : Value := .pointer (some ⟨gl, 0, none⟩)
        refine RP_sg 1 [.p (.pointer none)] [(0, a1), (1, a2), (2, a3), (3, .pointer pr)] trivial ?_
        refine RP_nil <| n_then <| W_seq <| W_block <| W_seq <| W_regionS ⟨(fun w' => Blk w' gl 181 [.string le.key, .string le.key, .int .i64 le.c, .int .i64 le.n, .string le.val, .bool le.dead, .int .i64 le.tal.k, .int .u64 le.tal.a, .int .u64 le.tal.b, .int .i64 ((T.node le ll lr).sum.k), .int .u64 ((T.node le ll lr).sum.a), .int .u64 ((T.node le ll lr).sum.b), .pointer pll, .pointer plr, .int .i64 (((T.node le ll lr).size : Nat) : Int), .int .i64 (((T.node le ll lr).high : Nat) : Int)].toArray), (fun _ => True)⟩ (.cons 1 0 (.cons 1 2 (.cons 2 1 (.cons 2 3 (.cons 1 4 (.cons 1 5 (.cons 1 6 (.cons 1 7 (.cons 1 8 (.cons 1 9 (.cons 1 10 (.cons 1 12 (.cons 1 13 (.cons 1 14 (.cons 1 15 (.cons 2 11 (.cons 2 16 (.cons 1 17 (.cons 1 18 (.cons 1 19 .nil)))))))))))))))))))) 20 (by kernel_rfl) (by kernel_rfl) ?_
        have st4 := st.drew
        refine RS_sg 2 [.p a3, .p (.pointer pr)] [(0, a1), (1, a2), (2, a3), (3, .pointer pr), (12, a3), (14, .pointer pr)] (hbl.ext st4.ext hnl) (fun _ hS => trivial) ?_
        refine RS_e rfl rfl (ef_call (k := 155) (args := [a3]) (high_cr (hl'.to st4.ext hno)) body_155 (by kernel_rfl)) ?_
        rintro _ _ ⟨_, rfl, rfl, rfl⟩
        refine ⟨hbl.ext st4.ext hnl, ?_⟩
        refine RS_e rfl rfl (ef_call (k := 155) (args := [.pointer pr]) (high_cr (hr'.to st4.ext hno)) body_155 (by kernel_rfl)) ?_
        rintro _ _ ⟨_, rfl, rfl, rfl⟩
        refine ⟨hbl.ext st4.ext hnl, ?_⟩
        refine RS_sg 3 [.p (.int .i64 (IntKind.i64.wrap (((r.high : Nat) : Int) + 1))), .p (.bool (decide ((((T.node le ll lr).high : Nat) : Int) > (IntKind.i64.wrap (((r.high : Nat) : Int) + 1))))), .p (.bool (decide ((((T.node le ll lr).high : Nat) : Int) > (IntKind.i64.wrap (((r.high : Nat) : Int) + 1)))))] [(0, a1), (1, a2), (2, a3), (3, .pointer pr), (18, .bool (decide ((((T.node le ll lr).high : Nat) : Int) > (IntKind.i64.wrap (((r.high : Nat) : Int) + 1)))))] (hbl.ext st4.ext hnl) (fun _ hS => trivial) ?_
        refine RS_at (m' := [(0, a1), (1, a2), (2, a3), (3, .pointer pr), (18, .bool true)]) (by rw [hcA]) ?_
        refine RS_sg 8 [.p a3, .p a3, .p (.pointer (some ⟨gl, 12, none⟩)), .l 177 (.pointer (some ⟨gl, 12, none⟩)) (.pointer pll), .p a3, .p a3, .p (.pointer (some ⟨gl, 13, none⟩)), .l 177 (.pointer (some ⟨gl, 13, none⟩)) (.pointer plr)] [(0, a1), (1, a2), (2, a3), (3, .pointer pr), (18, .bool true), (22, .pointer pll), (27, .pointer plr)] (hbl.ext st4.ext hnl) (fun _ hS => ⟨ld1b (hS) nagg_177 rfl, ld1b (hS) nagg_177 rfl, trivial⟩) ?_
        refine RS_ge rfl rfl rfl (ef_call (k := 155) (args := [.pointer pll]) (high_cr (hll.to st4.ext hno)) body_155 (by kernel_rfl)) ?_
        rintro _ _ ⟨_, rfl, rfl, rfl⟩
        refine ⟨hbl.ext st4.ext hnl, ?_⟩
        refine RS_ge rfl rfl rfl (ef_call (k := 155) (args := [.pointer plr]) (high_cr (hlr.to st4.ext hno)) body_155 (by kernel_rfl)) ?_
        rintro _ _ ⟨_, rfl, rfl, rfl⟩
        refine ⟨hbl.ext st4.ext hnl, ?_⟩
        refine RS_sg 3 [.p (.bool (decide (((ll.high : Nat) : Int) ≥ ((lr.high : Nat) : Int)))), .p (.bool (decide (((ll.high : Nat) : Int) ≥ ((lr.high : Nat) : Int)))), .p (.bool (decide (((ll.high : Nat) : Int) ≥ ((lr.high : Nat) : Int))))] [(0, a1), (1, a2), (2, a3), (3, .pointer pr), (11, .bool (decide (((ll.high : Nat) : Int) ≥ ((lr.high : Nat) : Int))))] (hbl.ext st4.ext hnl) (fun _ hS => trivial) ?_
        refine RS_nil <| n_then <| W_true' rfl hcC ?_
        refine W_seq <| W_regionS ⟨(fun w' => Blk w' gl 181 [.string le.key, .string le.key, .int .i64 le.c, .int .i64 le.n, .string le.val, .bool le.dead, .int .i64 le.tal.k, .int .u64 le.tal.a, .int .u64 le.tal.b, .int .i64 ((T.node le ll lr).sum.k), .int .u64 ((T.node le ll lr).sum.a), .int .u64 ((T.node le ll lr).sum.b), .pointer pll, .pointer plr, .int .i64 (((T.node le ll lr).size : Nat) : Int), .int .i64 (((T.node le ll lr).high : Nat) : Int)].toArray), (fun _ => True)⟩ (.cons 1 0 (.cons 1 1 (.cons 1 2 (.cons 1 3 (.cons 1 4 (.cons 1 5 (.cons 1 6 (.cons 1 7 (.cons 1 8 (.cons 1 9 (.cons 1 10 (.cons 1 11 (.cons 1 12 (.cons 2 13 (.cons 2 14 (.cons 0 15 .nil)))))))))))))))) 16 (by kernel_rfl) (by kernel_rfl) ?_
        have st17 := st4.drew
        refine RS_sg 13 [.p a1, .p a3, .p a3, .p a3, .p (.pointer (some ⟨gl, 12, none⟩)), .l 177 (.pointer (some ⟨gl, 12, none⟩)) (.pointer pll), .p a1, .p a2, .p a3, .p a3, .p (.pointer (some ⟨gl, 13, none⟩)), .l 177 (.pointer (some ⟨gl, 13, none⟩)) (.pointer plr), .p (.pointer pr)] [(31, a1), (32, a3), (36, .pointer pll), (37, a1), (38, a2), (42, .pointer plr), (43, .pointer pr)] (hbl.ext st17.ext hnl) (fun _ hS => ⟨ld1b (hS) nagg_177 rfl, ld1b (hS) nagg_177 rfl, trivial⟩) ?_
        refine RS_e rfl rfl (ef_call (k := 147) (args := [a1, a2, .pointer plr, .pointer pr]) (over_cr ⟨htb.ext st17.ext hnt, st17.get 0 rfl⟩ (hx.ext st17.ext hnx) (hlr.to st17.ext hno) (hr'.to st17.ext hno) (by (try simp only [T.size] at *) <;> omega)) body_147 (by kernel_rfl)) ?_
        rintro _ w18 ⟨_, rfl, o1, rfl, ho1, hi1, ⟨-, hbj⟩, hx20⟩
        have st19 := st17.turned 0 rfl (.inl (by simp)) hbj hx20
        have st21 : St [bm] w w18 [(bm, 205, [.int .i64 (addj (j) (T.joins lr r))])] := st19
        refine ⟨hbl.ext st21.ext hnl, ?_⟩
        refine RS_e rfl rfl (ef_call (k := 147) (args := [a1, a3, .pointer pll, .pointer (some ⟨o1, 0, none⟩)]) (over_cr ⟨htb.ext st21.ext hnt, st21.get 0 rfl⟩ (hbl.ext st21.ext hnl) (hll.to st21.ext hno) hi1 (by (try simp only [T.size] at *) <;> omega)) body_147 (by kernel_rfl)) ?_
        rintro _ w22 ⟨_, rfl, o2, rfl, ho2, hi2, ⟨-, hbj⟩, hx24⟩
        have st23 := st21.turned 0 rfl (.inl (by simp)) hbj hx24
        replace hi1 := hi1.to hx24 (NoNode.meter (st21.get 0 rfl))
        have st25 : St [bm] w w22 [(bm, 205, [.int .i64 (addj (addj (j) (T.joins lr r)) (T.joins ll (T.node e lr r)))])] := st23
        refine ⟨hbl.ext st25.ext hnl, ?_⟩
        let a26 : Value := .pointer (some ⟨o2, 0, none⟩)
        refine RS_sgP 1 [.p a26] [(8, a26)] (fun _ => trivial) ?_
        refine RS_nil <| n_then <| W_ret <| r_block <| r_then ?_
        have hbe := st25.get 0 rfl
        try simp only [addj_add] at hbe
        refine ret_of (P := Tryd.prog) (fn := Tryd.f148) (m := [(8, .pointer (some ⟨o2, 0, none⟩))]) (w := w22) (res1 rfl (rv_tmp rfl)) ?_
        exact ⟨o2, rfl, hi2, ⟨htb.ext st25.ext hnt, by simpa [Nat.add_assoc] using hbe⟩, st25.ext⟩
      · simp only [if_neg hC]
        rw [decide_eq_false hC] at hcC
        cases lr with
        | nil => simp [T.high] at hC
        | node me ml mr =>
          obtain ⟨gm, pml, pmr, rfl, hbm2, hml, hmr⟩ := id hlr
          have hnm : gm ∉ [bm] := by simpa using (hbm2.ne_ hT.m (by decide))
          refine CR_enter Tryd.func148 rfl Tryd.ntmps148 rfl ?_
          refine W_seq <| W_region ?_
          let a1 : Value := .pointer (some ⟨bt, 0, none⟩)
          let a2 : Value := .pointer (some ⟨gx, 0, none⟩)
          let a3 : Value := .pointer (some ⟨gl, 0, none⟩)
          refine RP_sg 1 [.p (.pointer none)] [(0, a1), (1, a2), (2, a3), (3, .pointer pr)] trivial ?_
          refine RP_nil <| n_then <| W_seq <| W_block <| W_seq <| W_regionS ⟨(fun w' => Blk w' gl 181 [.string le.key, .string le.key, .int .i64 le.c, .int .i64 le.n, .string le.val, .bool le.dead, .int .i64 le.tal.k, .int .u64 le.tal.a, .int .u64 le.tal.b, .int .i64 ((T.node le ll (T.node me ml mr)).sum.k), .int .u64 ((T.node le ll (T.node me ml mr)).sum.a), .int .u64 ((T.node le ll (T.node me ml mr)).sum.b), .pointer pll, .pointer (some ⟨gm, 0, none⟩), .int .i64 (((T.node le ll (T.node me ml mr)).size : Nat) : Int), .int .i64 (((T.node le ll (T.node me ml mr)).high : Nat) : Int)].toArray), (fun _ => True)⟩ (.cons 1 0 (.cons 1 2 (.cons 2 1 (.cons 2 3 (.cons 1 4 (.cons 1 5 (.cons 1 6 (.cons 1 7 (.cons 1 8 (.cons 1 9 (.cons 1 10 (.cons 1 12 (.cons 1 13 (.cons 1 14 (.cons 1 15 (.cons 2 11 (.cons 2 16 (.cons 1 17 (.cons 1 18 (.cons 1 19 .nil)))))))))))))))))))) 20 (by kernel_rfl) (by kernel_rfl) ?_
          have st4 := st.drew
          refine RS_sg 2 [.p a3, .p (.pointer pr)] [(0, a1), (1, a2), (2, a3), (3, .pointer pr), (12, a3), (14, .pointer pr)] (hbl.ext st4.ext hnl) (fun _ hS => trivial) ?_
          refine RS_e rfl rfl (ef_call (k := 155) (args := [a3]) (high_cr (hl'.to st4.ext hno)) body_155 (by kernel_rfl)) ?_
          rintro _ _ ⟨_, rfl, rfl, rfl⟩
          refine ⟨hbl.ext st4.ext hnl, ?_⟩
          refine RS_e rfl rfl (ef_call (k := 155) (args := [.pointer pr]) (high_cr (hr'.to st4.ext hno)) body_155 (by kernel_rfl)) ?_
          rintro _ _ ⟨_, rfl, rfl, rfl⟩
          refine ⟨hbl.ext st4.ext hnl, ?_⟩
          refine RS_sg 3 [.p (.int .i64 (IntKind.i64.wrap (((r.high : Nat) : Int) + 1))), .p (.bool (decide ((((T.node le ll (T.node me ml mr)).high : Nat) : Int) > (IntKind.i64.wrap (((r.high : Nat) : Int) + 1))))), .p (.bool (decide ((((T.node le ll (T.node me ml mr)).high : Nat) : Int) > (IntKind.i64.wrap (((r.high : Nat) : Int) + 1)))))] [(0, a1), (1, a2), (2, a3), (3, .pointer pr), (18, .bool (decide ((((T.node le ll (T.node me ml mr)).high : Nat) : Int) > (IntKind.i64.wrap (((r.high : Nat) : Int) + 1)))))] (hbl.ext st4.ext hnl) (fun _ hS => trivial) ?_
          refine RS_at (m' := [(0, a1), (1, a2), (2, a3), (3, .pointer pr), (18, .bool true)]) (by rw [hcA]) ?_
          let a11 : Value := .pointer (some ⟨gm, 0, none⟩)
          refine RS_sg 8 [.p a3, .p a3, .p (.pointer (some ⟨gl, 12, none⟩)), .l 177 (.pointer (some ⟨gl, 12, none⟩)) (.pointer pll), .p a3, .p a3, .p (.pointer (some ⟨gl, 13, none⟩)), .l 177 (.pointer (some ⟨gl, 13, none⟩)) a11] [(0, a1), (1, a2), (2, a3), (3, .pointer pr), (18, .bool true), (22, .pointer pll), (27, a11)] (hbl.ext st4.ext hnl) (fun _ hS => ⟨ld1b (hS) nagg_177 rfl, ld1b (hS) nagg_177 rfl, trivial⟩) ?_
          refine RS_ge rfl rfl rfl (ef_call (k := 155) (args := [.pointer pll]) (high_cr (hll.to st4.ext hno)) body_155 (by kernel_rfl)) ?_
          rintro _ _ ⟨_, rfl, rfl, rfl⟩
          refine ⟨hbl.ext st4.ext hnl, ?_⟩
          refine RS_ge rfl rfl rfl (ef_call (k := 155) (args := [a11]) (high_cr (hlr.to st4.ext hno)) body_155 (by kernel_rfl)) ?_
          rintro _ _ ⟨_, rfl, rfl, rfl⟩
          refine ⟨hbl.ext st4.ext hnl, ?_⟩
          refine RS_sg 3 [.p (.bool (decide (((ll.high : Nat) : Int) ≥ (((T.node me ml mr).high : Nat) : Int)))), .p (.bool (decide (((ll.high : Nat) : Int) ≥ (((T.node me ml mr).high : Nat) : Int)))), .p (.bool (decide (((ll.high : Nat) : Int) ≥ (((T.node me ml mr).high : Nat) : Int))))] [(0, a1), (1, a2), (2, a3), (3, .pointer pr), (11, .bool (decide (((ll.high : Nat) : Int) ≥ (((T.node me ml mr).high : Nat) : Int))))] (hbl.ext st4.ext hnl) (fun _ hS => trivial) ?_
          refine RS_nil <| n_then <| W_false' rfl hcC ?_
          refine W_seq <| W_region <| RP_sg 1 [.p a3] [(0, a1), (1, a2), (2, a3), (3, .pointer pr), (47, a3)] trivial ?_
          refine RP_e rfl (ef_call (k := 155) (args := [a3]) (high_cr (hl'.to st4.ext hno)) body_155 (by kernel_rfl)) ?_
          rintro _ _ ⟨_, rfl, rfl, rfl⟩
          refine RP_sg 1 [.p (.pointer pr)] [(0, a1), (1, a2), (2, a3), (3, .pointer pr), (48, .int .i64 (((T.node le ll (T.node me ml mr)).high : Nat) : Int)), (49, .pointer pr)] trivial ?_
          refine RP_e rfl (ef_call (k := 155) (args := [.pointer pr]) (high_cr (hr'.to st4.ext hno)) body_155 (by kernel_rfl)) ?_
          rintro _ _ ⟨_, rfl, rfl, rfl⟩
          refine RP_sg 3 [.p (.int .i64 (IntKind.i64.wrap (((r.high : Nat) : Int) + 1))), .p (.bool (decide ((((T.node le ll (T.node me ml mr)).high : Nat) : Int) > (IntKind.i64.wrap (((r.high : Nat) : Int) + 1))))), .p (.bool (decide ((((T.node le ll (T.node me ml mr)).high : Nat) : Int) > (IntKind.i64.wrap (((r.high : Nat) : Int) + 1)))))] [(0, a1), (1, a2), (2, a3), (3, .pointer pr), (46, .bool (decide ((((T.node le ll (T.node me ml mr)).high : Nat) : Int) > (IntKind.i64.wrap (((r.high : Nat) : Int) + 1)))))] trivial ?_
          refine RP_nil <| n_then <| W_true' rfl hcA ?_
          refine W_seq <| W_region <| RP_sg 5 [.p a3, .p a3, .p (.pointer (some ⟨gl, 13, none⟩)), .l 177 (.pointer (some ⟨gl, 13, none⟩)) a11, .p a11] [(0, a1), (1, a2), (2, a3), (3, .pointer pr), (9, a11)] ⟨ld1b (hbl.ext st4.ext hnl) nagg_177 rfl, trivial⟩ ?_
          refine RP_nil <| n_then <| W_seq <| W_regionS ⟨(fun w' => Blk w' gl 181 [.string le.key, .string le.key, .int .i64 le.c, .int .i64 le.n, .string le.val, .bool le.dead, .int .i64 le.tal.k, .int .u64 le.tal.a, .int .u64 le.tal.b, .int .i64 ((T.node le ll (T.node me ml mr)).sum.k), .int .u64 ((T.node le ll (T.node me ml mr)).sum.a), .int .u64 ((T.node le ll (T.node me ml mr)).sum.b), .pointer pll, a11, .int .i64 (((T.node le ll (T.node me ml mr)).size : Nat) : Int), .int .i64 (((T.node le ll (T.node me ml mr)).high : Nat) : Int)].toArray ∧ Blk w' gm 181 [.string me.key, .string me.key, .int .i64 me.c, .int .i64 me.n, .string me.val, .bool me.dead, .int .i64 me.tal.k, .int .u64 me.tal.a, .int .u64 me.tal.b, .int .i64 ((T.node me ml mr).sum.k), .int .u64 ((T.node me ml mr).sum.a), .int .u64 ((T.node me ml mr).sum.b), .pointer pml, .pointer pmr, .int .i64 (((T.node me ml mr).size : Nat) : Int), .int .i64 (((T.node me ml mr).high : Nat) : Int)].toArray), (fun _ => True)⟩ (.cons 1 0 (.cons 1 1 (.cons 1 2 (.cons 1 3 (.cons 1 4 (.cons 1 5 (.cons 1 6 (.cons 1 7 (.cons 1 8 (.cons 1 9 (.cons 1 10 (.cons 1 11 (.cons 1 13 (.cons 1 14 (.cons 1 15 (.cons 1 16 (.cons 1 17 (.cons 1 18 (.cons 1 19 (.cons 2 12 (.cons 2 20 (.cons 2 21 (.cons 0 22 .nil))))))))))))))))))))))) 23 (by kernel_rfl) (by kernel_rfl) ?_
          have st24 := st4.drew
          refine RS_sg 19 [.p a1, .p a11, .p a1, .p a3, .p a3, .p a3, .p (.pointer (some ⟨gl, 12, none⟩)), .l 177 (.pointer (some ⟨gl, 12, none⟩)) (.pointer pll), .p a11, .p a11, .p (.pointer (some ⟨gm, 12, none⟩)), .l 177 (.pointer (some ⟨gm, 12, none⟩)) (.pointer pml), .p a1, .p a2, .p a11, .p a11, .p (.pointer (some ⟨gm, 13, none⟩)), .l 177 (.pointer (some ⟨gm, 13, none⟩)) (.pointer pmr), .p (.pointer pr)] [(57, a1), (58, a11), (59, a1), (60, a3), (64, .pointer pll), (68, .pointer pml), (70, a1), (71, a2), (75, .pointer pmr), (76, .pointer pr)] (⟨hbl.ext st24.ext hnl, hbm2.ext st24.ext hnm⟩) (fun _ hS => ⟨ld1b (hS.1) nagg_177 rfl, ld1b (hS.2) nagg_177 rfl, ld1b (hS.2) nagg_177 rfl, trivial⟩) ?_
          refine RS_e rfl rfl (ef_call (k := 147) (args := [a1, a3, .pointer pll, .pointer pml]) (over_cr ⟨htb.ext st24.ext hnt, st24.get 0 rfl⟩ (hbl.ext st24.ext hnl) (hll.to st24.ext hno) (hml.to st24.ext hno) (by (try simp only [T.size] at *) <;> omega)) body_147 (by kernel_rfl)) ?_
          rintro _ w25 ⟨_, rfl, o1, rfl, ho1, hi1, ⟨-, hbj⟩, hx27⟩
          have st26 := st24.turned 0 rfl (.inl (by simp)) hbj hx27
          have st28 : St [bm] w w25 [(bm, 205, [.int .i64 (addj (j) (T.joins ll ml))])] := st26
          refine ⟨⟨hbl.ext st28.ext hnl, hbm2.ext st28.ext hnm⟩, ?_⟩
          refine RS_e rfl rfl (ef_call (k := 147) (args := [a1, a2, .pointer pmr, .pointer pr]) (over_cr ⟨htb.ext st28.ext hnt, st28.get 0 rfl⟩ (hx.ext st28.ext hnx) (hmr.to st28.ext hno) (hr'.to st28.ext hno) (by (try simp only [T.size] at *) <;> omega)) body_147 (by kernel_rfl)) ?_
          rintro _ w29 ⟨_, rfl, o2, rfl, ho2, hi2, ⟨-, hbj⟩, hx31⟩
          have st30 := st28.turned 0 rfl (.inl (by simp)) hbj hx31
          replace hi1 := hi1.to hx31 (NoNode.meter (st28.get 0 rfl))
          have st32 : St [bm] w w29 [(bm, 205, [.int .i64 (addj (addj (j) (T.joins ll ml)) (T.joins mr r))])] := st30
          refine ⟨⟨hbl.ext st32.ext hnl, hbm2.ext st32.ext hnm⟩, ?_⟩
          refine RS_e rfl rfl (ef_call (k := 147) (args := [a1, a11, .pointer (some ⟨o1, 0, none⟩), .pointer (some ⟨o2, 0, none⟩)]) (over_cr ⟨htb.ext st32.ext hnt, st32.get 0 rfl⟩ (hbm2.ext st32.ext hnm) hi1 hi2 (by (try simp only [T.size] at *) <;> omega)) body_147 (by kernel_rfl)) ?_
          rintro _ w33 ⟨_, rfl, o3, rfl, ho3, hi3, ⟨-, hbj⟩, hx35⟩
          have st34 := st32.turned 0 rfl (.inl (by simp)) hbj hx35
          replace hi1 := hi1.to hx35 (NoNode.meter (st32.get 0 rfl))
          replace hi2 := hi2.to hx35 (NoNode.meter (st32.get 0 rfl))
          have st36 : St [bm] w w33 [(bm, 205, [.int .i64 (addj (addj (addj (j) (T.joins ll ml)) (T.joins mr r)) (2))])] := st34
          refine ⟨⟨hbl.ext st36.ext hnl, hbm2.ext st36.ext hnm⟩, ?_⟩
          let a37 : Value := .pointer (some ⟨o3, 0, none⟩)
          refine RS_sgP 1 [.p a37] [(8, a37)] (fun _ => trivial) ?_
          refine RS_nil <| n_then <| W_ret <| r_block <| r_then ?_
          have hbe := st36.get 0 rfl
          try simp only [addj_add] at hbe
          refine ret_of (P := Tryd.prog) (fn := Tryd.f148) (m := [(8, .pointer (some ⟨o3, 0, none⟩))]) (w := w33) (res1 rfl (rv_tmp rfl)) ?_
          exact ⟨o3, rfl, hi3, ⟨htb.ext st36.ext hnt, by simpa [Nat.add_assoc] using hbe⟩, st36.ext⟩
  · rw [if_neg hA, if_neg hA]
    rw [decide_eq_false hA] at hcA
    by_cases hB : l.high + 1 < r.high
    · rw [if_pos hB, if_pos hB]
      rw [decide_eq_true hB] at hcB
      cases r with
      | nil => simp [T.high] at hB
      | node re rl rr =>
        obtain ⟨gr, prl, prr, rfl, hbr, hrl, hrr⟩ := hr
        have hnr : gr ∉ [bm] := by simpa using (hbr.ne_ hT.m (by decide))
        have hcC := high_ge (l := rr.high) (r := rl.high)
        by_cases hC : rl.high ≤ rr.high
        · simp only [if_pos hC]
          rw [decide_eq_true hC] at hcC
          refine CR_enter Tryd.func148 rfl Tryd.ntmps148 rfl ?_
          refine W_seq <| W_region ?_
          let a1 : Value := .pointer (some ⟨bt, 0, none⟩)
          let a2 : Value := .pointer (some ⟨gx, 0, none⟩)
          let a3 : Value := .pointer (some ⟨gr, 0, none⟩)
          refine RP_sg 1 [.p (.pointer none)] [(0, a1), (1, a2), (2, .pointer pl), (3, a3)] trivial ?_
          refine RP_nil <| n_then <| W_seq <| W_block <| W_seq <| W_regionS ⟨(fun _ => True), (fun _ => True)⟩ (.cons 1 0 (.cons 1 2 (.cons 2 1 (.cons 2 3 (.cons 1 4 (.cons 1 5 (.cons 1 6 (.cons 1 7 (.cons 1 8 (.cons 1 9 (.cons 1 10 (.cons 1 12 (.cons 1 13 (.cons 1 14 (.cons 1 15 (.cons 2 11 (.cons 2 16 (.cons 1 17 (.cons 1 18 (.cons 1 19 .nil)))))))))))))))))))) 20 (by kernel_rfl) (by kernel_rfl) ?_
          have st4 := st.drew
          refine RS_sg 2 [.p (.pointer pl), .p a3] [(0, a1), (1, a2), (2, .pointer pl), (3, a3), (12, .pointer pl), (14, a3)] trivial (fun _ hS => trivial) ?_
          refine RS_e rfl rfl (ef_call (k := 155) (args := [.pointer pl]) (high_cr (hl'.to st4.ext hno)) body_155 (by kernel_rfl)) ?_
          rintro _ _ ⟨_, rfl, rfl, rfl⟩
          refine ⟨trivial, ?_⟩
          refine RS_e rfl rfl (ef_call (k := 155) (args := [a3]) (high_cr (hr'.to st4.ext hno)) body_155 (by kernel_rfl)) ?_
          rintro _ _ ⟨_, rfl, rfl, rfl⟩
          refine ⟨trivial, ?_⟩
          refine RS_sg 3 [.p (.int .i64 (IntKind.i64.wrap ((((T.node re rl rr).high : Nat) : Int) + 1))), .p (.bool (decide (((l.high : Nat) : Int) > (IntKind.i64.wrap ((((T.node re rl rr).high : Nat) : Int) + 1))))), .p (.bool (decide (((l.high : Nat) : Int) > (IntKind.i64.wrap ((((T.node re rl rr).high : Nat) : Int) + 1)))))] [(0, a1), (1, a2), (2, .pointer pl), (3, a3), (18, .bool (decide (((l.high : Nat) : Int) > (IntKind.i64.wrap ((((T.node re rl rr).high : Nat) : Int) + 1)))))] trivial (fun _ hS => trivial) ?_
          refine RS_at (m' := [(0, a1), (1, a2), (2, .pointer pl), (3, a3), (18, .bool false)]) (by rw [hcA]) ?_
          refine RS_sg 8 [.no, .no, .no, .no, .no, .no, .no, .no] [(0, a1), (1, a2), (2, .pointer pl), (3, a3), (18, .bool false), (22, undef), (27, undef)] trivial (fun _ hS => trivial) ?_
          refine RS_noe rfl (fun d h => by injection h with h; subst h; rfl) rfl (by decide) (trivial) ?_
          refine RS_noe rfl (fun d h => by injection h with h; subst h; rfl) rfl (by decide) (trivial) ?_
          refine RS_sg 3 [.no, .p (.bool false), .p (.bool false)] [(0, a1), (1, a2), (2, .pointer pl), (3, a3), (11, .bool false)] trivial (fun _ hS => trivial) ?_
          refine RS_nil <| n_then <| W_false rfl ?_
          refine W_seq <| W_region <| RP_sg 1 [.p (.pointer pl)] [(0, a1), (1, a2), (2, .pointer pl), (3, a3), (47, .pointer pl)] trivial ?_
          refine RP_e rfl (ef_call (k := 155) (args := [.pointer pl]) (high_cr (hl'.to st4.ext hno)) body_155 (by kernel_rfl)) ?_
          rintro _ _ ⟨_, rfl, rfl, rfl⟩
          refine RP_sg 1 [.p a3] [(0, a1), (1, a2), (2, .pointer pl), (3, a3), (48, .int .i64 ((l.high : Nat) : Int)), (49, a3)] trivial ?_
          refine RP_e rfl (ef_call (k := 155) (args := [a3]) (high_cr (hr'.to st4.ext hno)) body_155 (by kernel_rfl)) ?_
          rintro _ _ ⟨_, rfl, rfl, rfl⟩
          refine RP_sg 3 [.p (.int .i64 (IntKind.i64.wrap ((((T.node re rl rr).high : Nat) : Int) + 1))), .p (.bool (decide (((l.high : Nat) : Int) > (IntKind.i64.wrap ((((T.node re rl rr).high : Nat) : Int) + 1))))), .p (.bool (decide (((l.high : Nat) : Int) > (IntKind.i64.wrap ((((T.node re rl rr).high : Nat) : Int) + 1)))))] [(0, a1), (1, a2), (2, .pointer pl), (3, a3), (46, .bool (decide (((l.high : Nat) : Int) > (IntKind.i64.wrap ((((T.node re rl rr).high : Nat) : Int) + 1)))))] trivial ?_
          refine RP_nil <| n_then <| W_false' rfl hcA ?_
          refine W_seq <| W_regionS ⟨(fun w' => Blk w' gr 181 [.string re.key, .string re.key, .int .i64 re.c, .int .i64 re.n, .string re.val, .bool re.dead, .int .i64 re.tal.k, .int .u64 re.tal.a, .int .u64 re.tal.b, .int .i64 ((T.node re rl rr).sum.k), .int .u64 ((T.node re rl rr).sum.a), .int .u64 ((T.node re rl rr).sum.b), .pointer prl, .pointer prr, .int .i64 (((T.node re rl rr).size : Nat) : Int), .int .i64 (((T.node re rl rr).high : Nat) : Int)].toArray), (fun _ => True)⟩ (.cons 1 0 (.cons 1 2 (.cons 2 1 (.cons 2 3 (.cons 1 4 (.cons 1 5 (.cons 1 6 (.cons 1 7 (.cons 1 8 (.cons 1 9 (.cons 1 10 (.cons 1 12 (.cons 1 13 (.cons 1 14 (.cons 1 15 (.cons 2 11 (.cons 2 16 (.cons 1 17 (.cons 1 18 (.cons 1 19 .nil)))))))))))))))))))) 20 (by kernel_rfl) (by kernel_rfl) ?_
          have st17 := st4.drew
          refine RS_sg 2 [.p a3, .p (.pointer pl)] [(0, a1), (1, a2), (2, .pointer pl), (3, a3), (80, a3), (82, .pointer pl)] (hbr.ext st17.ext hnr) (fun _ hS => trivial) ?_
          refine RS_e rfl rfl (ef_call (k := 155) (args := [a3]) (high_cr (hr'.to st17.ext hno)) body_155 (by kernel_rfl)) ?_
          rintro _ _ ⟨_, rfl, rfl, rfl⟩
          refine ⟨hbr.ext st17.ext hnr, ?_⟩
          refine RS_e rfl rfl (ef_call (k := 155) (args := [.pointer pl]) (high_cr (hl'.to st17.ext hno)) body_155 (by kernel_rfl)) ?_
          rintro _ _ ⟨_, rfl, rfl, rfl⟩
          refine ⟨hbr.ext st17.ext hnr, ?_⟩
          refine RS_sg 3 [.p (.int .i64 (IntKind.i64.wrap (((l.high : Nat) : Int) + 1))), .p (.bool (decide ((((T.node re rl rr).high : Nat) : Int) > (IntKind.i64.wrap (((l.high : Nat) : Int) + 1))))), .p (.bool (decide ((((T.node re rl rr).high : Nat) : Int) > (IntKind.i64.wrap (((l.high : Nat) : Int) + 1)))))] [(0, a1), (1, a2), (2, .pointer pl), (3, a3), (86, .bool (decide ((((T.node re rl rr).high : Nat) : Int) > (IntKind.i64.wrap (((l.high : Nat) : Int) + 1)))))] (hbr.ext st17.ext hnr) (fun _ hS => trivial) ?_
          refine RS_at (m' := [(0, a1), (1, a2), (2, .pointer pl), (3, a3), (86, .bool true)]) (by rw [hcB]) ?_
          refine RS_sg 8 [.p a3, .p a3, .p (.pointer (some ⟨gr, 13, none⟩)), .l 177 (.pointer (some ⟨gr, 13, none⟩)) (.pointer prr), .p a3, .p a3, .p (.pointer (some ⟨gr, 12, none⟩)), .l 177 (.pointer (some ⟨gr, 12, none⟩)) (.pointer prl)] [(0, a1), (1, a2), (2, .pointer pl), (3, a3), (86, .bool true), (90, .pointer prr), (95, .pointer prl)] (hbr.ext st17.ext hnr) (fun _ hS => ⟨ld1b (hS) nagg_177 rfl, ld1b (hS) nagg_177 rfl, trivial⟩) ?_
          refine RS_ge rfl rfl rfl (ef_call (k := 155) (args := [.pointer prr]) (high_cr (hrr.to st17.ext hno)) body_155 (by kernel_rfl)) ?_
          rintro _ _ ⟨_, rfl, rfl, rfl⟩
          refine ⟨hbr.ext st17.ext hnr, ?_⟩
          refine RS_ge rfl rfl rfl (ef_call (k := 155) (args := [.pointer prl]) (high_cr (hrl.to st17.ext hno)) body_155 (by kernel_rfl)) ?_
          rintro _ _ ⟨_, rfl, rfl, rfl⟩
          refine ⟨hbr.ext st17.ext hnr, ?_⟩
          refine RS_sg 3 [.p (.bool (decide (((rr.high : Nat) : Int) ≥ ((rl.high : Nat) : Int)))), .p (.bool (decide (((rr.high : Nat) : Int) ≥ ((rl.high : Nat) : Int)))), .p (.bool (decide (((rr.high : Nat) : Int) ≥ ((rl.high : Nat) : Int))))] [(0, a1), (1, a2), (2, .pointer pl), (3, a3), (79, .bool (decide (((rr.high : Nat) : Int) ≥ ((rl.high : Nat) : Int))))] (hbr.ext st17.ext hnr) (fun _ hS => trivial) ?_
          refine RS_nil <| n_then <| W_true' rfl hcC ?_
          refine W_seq <| W_regionS ⟨(fun w' => Blk w' gr 181 [.string re.key, .string re.key, .int .i64 re.c, .int .i64 re.n, .string re.val, .bool re.dead, .int .i64 re.tal.k, .int .u64 re.tal.a, .int .u64 re.tal.b, .int .i64 ((T.node re rl rr).sum.k), .int .u64 ((T.node re rl rr).sum.a), .int .u64 ((T.node re rl rr).sum.b), .pointer prl, .pointer prr, .int .i64 (((T.node re rl rr).size : Nat) : Int), .int .i64 (((T.node re rl rr).high : Nat) : Int)].toArray), (fun _ => True)⟩ (.cons 1 0 (.cons 1 1 (.cons 1 2 (.cons 1 3 (.cons 1 4 (.cons 1 5 (.cons 1 6 (.cons 1 7 (.cons 1 8 (.cons 1 10 (.cons 1 11 (.cons 1 12 (.cons 1 13 (.cons 2 9 (.cons 2 14 (.cons 0 15 .nil)))))))))))))))) 16 (by kernel_rfl) (by kernel_rfl) ?_
          have st30 := st17.drew
          refine RS_sg 13 [.p a1, .p a3, .p a1, .p a2, .p (.pointer pl), .p a3, .p a3, .p (.pointer (some ⟨gr, 12, none⟩)), .l 177 (.pointer (some ⟨gr, 12, none⟩)) (.pointer prl), .p a3, .p a3, .p (.pointer (some ⟨gr, 13, none⟩)), .l 177 (.pointer (some ⟨gr, 13, none⟩)) (.pointer prr)] [(99, a1), (100, a3), (101, a1), (102, a2), (103, .pointer pl), (107, .pointer prl), (112, .pointer prr)] (hbr.ext st30.ext hnr) (fun _ hS => ⟨ld1b (hS) nagg_177 rfl, ld1b (hS) nagg_177 rfl, trivial⟩) ?_
          refine RS_e rfl rfl (ef_call (k := 147) (args := [a1, a2, .pointer pl, .pointer prl]) (over_cr ⟨htb.ext st30.ext hnt, st30.get 0 rfl⟩ (hx.ext st30.ext hnx) (hl'.to st30.ext hno) (hrl.to st30.ext hno) (by (try simp only [T.size] at *) <;> omega)) body_147 (by kernel_rfl)) ?_
          rintro _ w31 ⟨_, rfl, o1, rfl, ho1, hi1, ⟨-, hbj⟩, hx33⟩
          have st32 := st30.turned 0 rfl (.inl (by simp)) hbj hx33
          have st34 : St [bm] w w31 [(bm, 205, [.int .i64 (addj (j) (T.joins l rl))])] := st32
          refine ⟨hbr.ext st34.ext hnr, ?_⟩
          refine RS_e rfl rfl (ef_call (k := 147) (args := [a1, a3, .pointer (some ⟨o1, 0, none⟩), .pointer prr]) (over_cr ⟨htb.ext st34.ext hnt, st34.get 0 rfl⟩ (hbr.ext st34.ext hnr) hi1 (hrr.to st34.ext hno) (by (try simp only [T.size] at *) <;> omega)) body_147 (by kernel_rfl)) ?_
          rintro _ w35 ⟨_, rfl, o2, rfl, ho2, hi2, ⟨-, hbj⟩, hx37⟩
          have st36 := st34.turned 0 rfl (.inl (by simp)) hbj hx37
          replace hi1 := hi1.to hx37 (NoNode.meter (st34.get 0 rfl))
          have st38 : St [bm] w w35 [(bm, 205, [.int .i64 (addj (addj (j) (T.joins l rl)) (T.joins (T.node e l rl) rr))])] := st36
          refine ⟨hbr.ext st38.ext hnr, ?_⟩
          let a39 : Value := .pointer (some ⟨o2, 0, none⟩)
          refine RS_sgP 1 [.p a39] [(8, a39)] (fun _ => trivial) ?_
          refine RS_nil <| n_then <| W_ret <| r_block <| r_then ?_
          have hbe := st38.get 0 rfl
          try simp only [addj_add] at hbe
          refine ret_of (P := Tryd.prog) (fn := Tryd.f148) (m := [(8, .pointer (some ⟨o2, 0, none⟩))]) (w := w35) (res1 rfl (rv_tmp rfl)) ?_
          exact ⟨o2, rfl, hi2, ⟨htb.ext st38.ext hnt, by simpa [Nat.add_assoc] using hbe⟩, st38.ext⟩
        · simp only [if_neg hC]
          rw [decide_eq_false hC] at hcC
          cases rl with
          | nil => simp [T.high] at hC
          | node me ml mr =>
            obtain ⟨gm, pml, pmr, rfl, hbm2, hml, hmr⟩ := id hrl
            have hnm : gm ∉ [bm] := by simpa using (hbm2.ne_ hT.m (by decide))
            refine CR_enter Tryd.func148 rfl Tryd.ntmps148 rfl ?_
            refine W_seq <| W_region ?_
            let a1 : Value := .pointer (some ⟨bt, 0, none⟩)
            let a2 : Value := .pointer (some ⟨gx, 0, none⟩)
            let a3 : Value := .pointer (some ⟨gr, 0, none⟩)
            refine RP_sg 1 [.p (.pointer none)] [(0, a1), (1, a2), (2, .pointer pl), (3, a3)] trivial ?_
            refine RP_nil <| n_then <| W_seq <| W_block <| W_seq <| W_regionS ⟨(fun _ => True), (fun _ => True)⟩ (.cons 1 0 (.cons 1 2 (.cons 2 1 (.cons 2 3 (.cons 1 4 (.cons 1 5 (.cons 1 6 (.cons 1 7 (.cons 1 8 (.cons 1 9 (.cons 1 10 (.cons 1 12 (.cons 1 13 (.cons 1 14 (.cons 1 15 (.cons 2 11 (.cons 2 16 (.cons 1 17 (.cons 1 18 (.cons 1 19 .nil)))))))))))))))))))) 20 (by kernel_rfl) (by kernel_rfl) ?_
            have st4 := st.drew
            refine RS_sg 2 [.p (.pointer pl), .p a3] [(0, a1), (1, a2), (2, .pointer pl), (3, a3), (12, .pointer pl), (14, a3)] trivial (fun _ hS => trivial) ?_
            refine RS_e rfl rfl (ef_call (k := 155) (args := [.pointer pl]) (high_cr (hl'.to st4.ext hno)) body_155 (by kernel_rfl)) ?_
            rintro _ _ ⟨_, rfl, rfl, rfl⟩
            refine ⟨trivial, ?_⟩
            refine RS_e rfl rfl (ef_call (k := 155) (args := [a3]) (high_cr (hr'.to st4.ext hno)) body_155 (by kernel_rfl)) ?_
            rintro _ _ ⟨_, rfl, rfl, rfl⟩
            refine ⟨trivial, ?_⟩
            refine RS_sg 3 [.p (.int .i64 (IntKind.i64.wrap ((((T.node re (T.node me ml mr) rr).high : Nat) : Int) + 1))), .p (.bool (decide (((l.high : Nat) : Int) > (IntKind.i64.wrap ((((T.node re (T.node me ml mr) rr).high : Nat) : Int) + 1))))), .p (.bool (decide (((l.high : Nat) : Int) > (IntKind.i64.wrap ((((T.node re (T.node me ml mr) rr).high : Nat) : Int) + 1)))))] [(0, a1), (1, a2), (2, .pointer pl), (3, a3), (18, .bool (decide (((l.high : Nat) : Int) > (IntKind.i64.wrap ((((T.node re (T.node me ml mr) rr).high : Nat) : Int) + 1)))))] trivial (fun _ hS => trivial) ?_
            refine RS_at (m' := [(0, a1), (1, a2), (2, .pointer pl), (3, a3), (18, .bool false)]) (by rw [hcA]) ?_
            refine RS_sg 8 [.no, .no, .no, .no, .no, .no, .no, .no] [(0, a1), (1, a2), (2, .pointer pl), (3, a3), (18, .bool false), (22, undef), (27, undef)] trivial (fun _ hS => trivial) ?_
            refine RS_noe rfl (fun d h => by injection h with h; subst h; rfl) rfl (by decide) (trivial) ?_
            refine RS_noe rfl (fun d h => by injection h with h; subst h; rfl) rfl (by decide) (trivial) ?_
            refine RS_sg 3 [.no, .p (.bool false), .p (.bool false)] [(0, a1), (1, a2), (2, .pointer pl), (3, a3), (11, .bool false)] trivial (fun _ hS => trivial) ?_
            refine RS_nil <| n_then <| W_false rfl ?_
            refine W_seq <| W_region <| RP_sg 1 [.p (.pointer pl)] [(0, a1), (1, a2), (2, .pointer pl), (3, a3), (47, .pointer pl)] trivial ?_
            refine RP_e rfl (ef_call (k := 155) (args := [.pointer pl]) (high_cr (hl'.to st4.ext hno)) body_155 (by kernel_rfl)) ?_
            rintro _ _ ⟨_, rfl, rfl, rfl⟩
            refine RP_sg 1 [.p a3] [(0, a1), (1, a2), (2, .pointer pl), (3, a3), (48, .int .i64 ((l.high : Nat) : Int)), (49, a3)] trivial ?_
            refine RP_e rfl (ef_call (k := 155) (args := [a3]) (high_cr (hr'.to st4.ext hno)) body_155 (by kernel_rfl)) ?_
            rintro _ _ ⟨_, rfl, rfl, rfl⟩
            refine RP_sg 3 [.p (.int .i64 (IntKind.i64.wrap ((((T.node re (T.node me ml mr) rr).high : Nat) : Int) + 1))), .p (.bool (decide (((l.high : Nat) : Int) > (IntKind.i64.wrap ((((T.node re (T.node me ml mr) rr).high : Nat) : Int) + 1))))), .p (.bool (decide (((l.high : Nat) : Int) > (IntKind.i64.wrap ((((T.node re (T.node me ml mr) rr).high : Nat) : Int) + 1)))))] [(0, a1), (1, a2), (2, .pointer pl), (3, a3), (46, .bool (decide (((l.high : Nat) : Int) > (IntKind.i64.wrap ((((T.node re (T.node me ml mr) rr).high : Nat) : Int) + 1)))))] trivial ?_
            refine RP_nil <| n_then <| W_false' rfl hcA ?_
            refine W_seq <| W_regionS ⟨(fun w' => Blk w' gr 181 [.string re.key, .string re.key, .int .i64 re.c, .int .i64 re.n, .string re.val, .bool re.dead, .int .i64 re.tal.k, .int .u64 re.tal.a, .int .u64 re.tal.b, .int .i64 ((T.node re (T.node me ml mr) rr).sum.k), .int .u64 ((T.node re (T.node me ml mr) rr).sum.a), .int .u64 ((T.node re (T.node me ml mr) rr).sum.b), .pointer (some ⟨gm, 0, none⟩), .pointer prr, .int .i64 (((T.node re (T.node me ml mr) rr).size : Nat) : Int), .int .i64 (((T.node re (T.node me ml mr) rr).high : Nat) : Int)].toArray), (fun _ => True)⟩ (.cons 1 0 (.cons 1 2 (.cons 2 1 (.cons 2 3 (.cons 1 4 (.cons 1 5 (.cons 1 6 (.cons 1 7 (.cons 1 8 (.cons 1 9 (.cons 1 10 (.cons 1 12 (.cons 1 13 (.cons 1 14 (.cons 1 15 (.cons 2 11 (.cons 2 16 (.cons 1 17 (.cons 1 18 (.cons 1 19 .nil)))))))))))))))))))) 20 (by kernel_rfl) (by kernel_rfl) ?_
            have st17 := st4.drew
            refine RS_sg 2 [.p a3, .p (.pointer pl)] [(0, a1), (1, a2), (2, .pointer pl), (3, a3), (80, a3), (82, .pointer pl)] (hbr.ext st17.ext hnr) (fun _ hS => trivial) ?_
            refine RS_e rfl rfl (ef_call (k := 155) (args := [a3]) (high_cr (hr'.to st17.ext hno)) body_155 (by kernel_rfl)) ?_
            rintro _ _ ⟨_, rfl, rfl, rfl⟩
            refine ⟨hbr.ext st17.ext hnr, ?_⟩
            refine RS_e rfl rfl (ef_call (k := 155) (args := [.pointer pl]) (high_cr (hl'.to st17.ext hno)) body_155 (by kernel_rfl)) ?_
            rintro _ _ ⟨_, rfl, rfl, rfl⟩
            refine ⟨hbr.ext st17.ext hnr, ?_⟩
            refine RS_sg 3 [.p (.int .i64 (IntKind.i64.wrap (((l.high : Nat) : Int) + 1))), .p (.bool (decide ((((T.node re (T.node me ml mr) rr).high : Nat) : Int) > (IntKind.i64.wrap (((l.high : Nat) : Int) + 1))))), .p (.bool (decide ((((T.node re (T.node me ml mr) rr).high : Nat) : Int) > (IntKind.i64.wrap (((l.high : Nat) : Int) + 1)))))] [(0, a1), (1, a2), (2, .pointer pl), (3, a3), (86, .bool (decide ((((T.node re (T.node me ml mr) rr).high : Nat) : Int) > (IntKind.i64.wrap (((l.high : Nat) : Int) + 1)))))] (hbr.ext st17.ext hnr) (fun _ hS => trivial) ?_
            refine RS_at (m' := [(0, a1), (1, a2), (2, .pointer pl), (3, a3), (86, .bool true)]) (by rw [hcB]) ?_
            let a24 : Value := .pointer (some ⟨gm, 0, none⟩)
            refine RS_sg 8 [.p a3, .p a3, .p (.pointer (some ⟨gr, 13, none⟩)), .l 177 (.pointer (some ⟨gr, 13, none⟩)) (.pointer prr), .p a3, .p a3, .p (.pointer (some ⟨gr, 12, none⟩)), .l 177 (.pointer (some ⟨gr, 12, none⟩)) a24] [(0, a1), (1, a2), (2, .pointer pl), (3, a3), (86, .bool true), (90, .pointer prr), (95, a24)] (hbr.ext st17.ext hnr) (fun _ hS => ⟨ld1b (hS) nagg_177 rfl, ld1b (hS) nagg_177 rfl, trivial⟩) ?_
            refine RS_ge rfl rfl rfl (ef_call (k := 155) (args := [.pointer prr]) (high_cr (hrr.to st17.ext hno)) body_155 (by kernel_rfl)) ?_
            rintro _ _ ⟨_, rfl, rfl, rfl⟩
            refine ⟨hbr.ext st17.ext hnr, ?_⟩
            refine RS_ge rfl rfl rfl (ef_call (k := 155) (args := [a24]) (high_cr (hrl.to st17.ext hno)) body_155 (by kernel_rfl)) ?_
            rintro _ _ ⟨_, rfl, rfl, rfl⟩
            refine ⟨hbr.ext st17.ext hnr, ?_⟩
            refine RS_sg 3 [.p (.bool (decide (((rr.high : Nat) : Int) ≥ (((T.node me ml mr).high : Nat) : Int)))), .p (.bool (decide (((rr.high : Nat) : Int) ≥ (((T.node me ml mr).high : Nat) : Int)))), .p (.bool (decide (((rr.high : Nat) : Int) ≥ (((T.node me ml mr).high : Nat) : Int))))] [(0, a1), (1, a2), (2, .pointer pl), (3, a3), (79, .bool (decide (((rr.high : Nat) : Int) ≥ (((T.node me ml mr).high : Nat) : Int))))] (hbr.ext st17.ext hnr) (fun _ hS => trivial) ?_
            refine RS_nil <| n_then <| W_false' rfl hcC ?_
            refine W_seq <| W_region <| RP_sg 1 [.p a3] [(0, a1), (1, a2), (2, .pointer pl), (3, a3), (115, a3)] trivial ?_
            refine RP_e rfl (ef_call (k := 155) (args := [a3]) (high_cr (hr'.to st17.ext hno)) body_155 (by kernel_rfl)) ?_
            rintro _ _ ⟨_, rfl, rfl, rfl⟩
            refine RP_sg 1 [.p (.pointer pl)] [(0, a1), (1, a2), (2, .pointer pl), (3, a3), (116, .int .i64 (((T.node re (T.node me ml mr) rr).high : Nat) : Int)), (117, .pointer pl)] trivial ?_
            refine RP_e rfl (ef_call (k := 155) (args := [.pointer pl]) (high_cr (hl'.to st17.ext hno)) body_155 (by kernel_rfl)) ?_
            rintro _ _ ⟨_, rfl, rfl, rfl⟩
            refine RP_sg 3 [.p (.int .i64 (IntKind.i64.wrap (((l.high : Nat) : Int) + 1))), .p (.bool (decide ((((T.node re (T.node me ml mr) rr).high : Nat) : Int) > (IntKind.i64.wrap (((l.high : Nat) : Int) + 1))))), .p (.bool (decide ((((T.node re (T.node me ml mr) rr).high : Nat) : Int) > (IntKind.i64.wrap (((l.high : Nat) : Int) + 1)))))] [(0, a1), (1, a2), (2, .pointer pl), (3, a3), (114, .bool (decide ((((T.node re (T.node me ml mr) rr).high : Nat) : Int) > (IntKind.i64.wrap (((l.high : Nat) : Int) + 1)))))] trivial ?_
            refine RP_nil <| n_then <| W_true' rfl hcB ?_
            refine W_seq <| W_region <| RP_sg 5 [.p a3, .p a3, .p (.pointer (some ⟨gr, 12, none⟩)), .l 177 (.pointer (some ⟨gr, 12, none⟩)) a24, .p a24] [(0, a1), (1, a2), (2, .pointer pl), (3, a3), (10, a24)] ⟨ld1b (hbr.ext st17.ext hnr) nagg_177 rfl, trivial⟩ ?_
            refine RP_nil <| n_then <| W_seq <| W_regionS ⟨(fun w' => Blk w' gr 181 [.string re.key, .string re.key, .int .i64 re.c, .int .i64 re.n, .string re.val, .bool re.dead, .int .i64 re.tal.k, .int .u64 re.tal.a, .int .u64 re.tal.b, .int .i64 ((T.node re (T.node me ml mr) rr).sum.k), .int .u64 ((T.node re (T.node me ml mr) rr).sum.a), .int .u64 ((T.node re (T.node me ml mr) rr).sum.b), a24, .pointer prr, .int .i64 (((T.node re (T.node me ml mr) rr).size : Nat) : Int), .int .i64 (((T.node re (T.node me ml mr) rr).high : Nat) : Int)].toArray ∧ Blk w' gm 181 [.string me.key, .string me.key, .int .i64 me.c, .int .i64 me.n, .string me.val, .bool me.dead, .int .i64 me.tal.k, .int .u64 me.tal.a, .int .u64 me.tal.b, .int .i64 ((T.node me ml mr).sum.k), .int .u64 ((T.node me ml mr).sum.a), .int .u64 ((T.node me ml mr).sum.b), .pointer pml, .pointer pmr, .int .i64 (((T.node me ml mr).size : Nat) : Int), .int .i64 (((T.node me ml mr).high : Nat) : Int)].toArray), (fun _ => True)⟩ (.cons 1 0 (.cons 1 1 (.cons 1 2 (.cons 1 3 (.cons 1 4 (.cons 1 5 (.cons 1 6 (.cons 1 7 (.cons 1 8 (.cons 1 10 (.cons 1 11 (.cons 1 12 (.cons 1 13 (.cons 1 14 (.cons 1 15 (.cons 1 16 (.cons 1 17 (.cons 1 18 (.cons 1 19 (.cons 2 9 (.cons 2 20 (.cons 2 21 (.cons 0 22 .nil))))))))))))))))))))))) 23 (by kernel_rfl) (by kernel_rfl) ?_
            have st37 := st17.drew
            refine RS_sg 19 [.p a1, .p a24, .p a1, .p a2, .p (.pointer pl), .p a24, .p a24, .p (.pointer (some ⟨gm, 12, none⟩)), .l 177 (.pointer (some ⟨gm, 12, none⟩)) (.pointer pml), .p a1, .p a3, .p a24, .p a24, .p (.pointer (some ⟨gm, 13, none⟩)), .l 177 (.pointer (some ⟨gm, 13, none⟩)) (.pointer pmr), .p a3, .p a3, .p (.pointer (some ⟨gr, 13, none⟩)), .l 177 (.pointer (some ⟨gr, 13, none⟩)) (.pointer prr)] [(125, a1), (126, a24), (127, a1), (128, a2), (129, .pointer pl), (133, .pointer pml), (135, a1), (136, a3), (140, .pointer pmr), (144, .pointer prr)] (⟨hbr.ext st37.ext hnr, hbm2.ext st37.ext hnm⟩) (fun _ hS => ⟨ld1b (hS.2) nagg_177 rfl, ld1b (hS.2) nagg_177 rfl, ld1b (hS.1) nagg_177 rfl, trivial⟩) ?_
            refine RS_e rfl rfl (ef_call (k := 147) (args := [a1, a2, .pointer pl, .pointer pml]) (over_cr ⟨htb.ext st37.ext hnt, st37.get 0 rfl⟩ (hx.ext st37.ext hnx) (hl'.to st37.ext hno) (hml.to st37.ext hno) (by (try simp only [T.size] at *) <;> omega)) body_147 (by kernel_rfl)) ?_
            rintro _ w38 ⟨_, rfl, o1, rfl, ho1, hi1, ⟨-, hbj⟩, hx40⟩
            have st39 := st37.turned 0 rfl (.inl (by simp)) hbj hx40
            have st41 : St [bm] w w38 [(bm, 205, [.int .i64 (addj (j) (T.joins l ml))])] := st39
            refine ⟨⟨hbr.ext st41.ext hnr, hbm2.ext st41.ext hnm⟩, ?_⟩
            refine RS_e rfl rfl (ef_call (k := 147) (args := [a1, a3, .pointer pmr, .pointer prr]) (over_cr ⟨htb.ext st41.ext hnt, st41.get 0 rfl⟩ (hbr.ext st41.ext hnr) (hmr.to st41.ext hno) (hrr.to st41.ext hno) (by (try simp only [T.size] at *) <;> omega)) body_147 (by kernel_rfl)) ?_
            rintro _ w42 ⟨_, rfl, o2, rfl, ho2, hi2, ⟨-, hbj⟩, hx44⟩
            have st43 := st41.turned 0 rfl (.inl (by simp)) hbj hx44
            replace hi1 := hi1.to hx44 (NoNode.meter (st41.get 0 rfl))
            have st45 : St [bm] w w42 [(bm, 205, [.int .i64 (addj (addj (j) (T.joins l ml)) (T.joins mr rr))])] := st43
            refine ⟨⟨hbr.ext st45.ext hnr, hbm2.ext st45.ext hnm⟩, ?_⟩
            refine RS_e rfl rfl (ef_call (k := 147) (args := [a1, a24, .pointer (some ⟨o1, 0, none⟩), .pointer (some ⟨o2, 0, none⟩)]) (over_cr ⟨htb.ext st45.ext hnt, st45.get 0 rfl⟩ (hbm2.ext st45.ext hnm) hi1 hi2 (by (try simp only [T.size] at *) <;> omega)) body_147 (by kernel_rfl)) ?_
            rintro _ w46 ⟨_, rfl, o3, rfl, ho3, hi3, ⟨-, hbj⟩, hx48⟩
            have st47 := st45.turned 0 rfl (.inl (by simp)) hbj hx48
            replace hi1 := hi1.to hx48 (NoNode.meter (st45.get 0 rfl))
            replace hi2 := hi2.to hx48 (NoNode.meter (st45.get 0 rfl))
            have st49 : St [bm] w w46 [(bm, 205, [.int .i64 (addj (addj (addj (j) (T.joins l ml)) (T.joins mr rr)) (2))])] := st47
            refine ⟨⟨hbr.ext st49.ext hnr, hbm2.ext st49.ext hnm⟩, ?_⟩
            let a50 : Value := .pointer (some ⟨o3, 0, none⟩)
            refine RS_sgP 1 [.p a50] [(8, a50)] (fun _ => trivial) ?_
            refine RS_nil <| n_then <| W_ret <| r_block <| r_then ?_
            have hbe := st49.get 0 rfl
            try simp only [addj_add] at hbe
            refine ret_of (P := Tryd.prog) (fn := Tryd.f148) (m := [(8, .pointer (some ⟨o3, 0, none⟩))]) (w := w46) (res1 rfl (rv_tmp rfl)) ?_
            exact ⟨o3, rfl, hi3, ⟨htb.ext st49.ext hnt, by simpa [Nat.add_assoc] using hbe⟩, st49.ext⟩
    · rw [if_neg hB, if_neg hB]
      rw [decide_eq_false hB] at hcB
      refine CR_enter Tryd.func148 rfl Tryd.ntmps148 rfl ?_
      refine W_seq <| W_region ?_
      let a1 : Value := .pointer (some ⟨bt, 0, none⟩)
      let a2 : Value := .pointer (some ⟨gx, 0, none⟩)
      refine RP_sg 1 [.p (.pointer none)] [(0, a1), (1, a2), (2, .pointer pl), (3, .pointer pr)] trivial ?_
      refine RP_nil <| n_then <| W_seq <| W_block <| W_seq <| W_regionS ⟨(fun _ => True), (fun _ => True)⟩ (.cons 1 0 (.cons 1 2 (.cons 2 1 (.cons 2 3 (.cons 1 4 (.cons 1 5 (.cons 1 6 (.cons 1 7 (.cons 1 8 (.cons 1 9 (.cons 1 10 (.cons 1 12 (.cons 1 13 (.cons 1 14 (.cons 1 15 (.cons 2 11 (.cons 2 16 (.cons 1 17 (.cons 1 18 (.cons 1 19 .nil)))))))))))))))))))) 20 (by kernel_rfl) (by kernel_rfl) ?_
      have st3 := st.drew
      refine RS_sg 2 [.p (.pointer pl), .p (.pointer pr)] [(0, a1), (1, a2), (2, .pointer pl), (3, .pointer pr), (12, .pointer pl), (14, .pointer pr)] trivial (fun _ hS => trivial) ?_
      refine RS_e rfl rfl (ef_call (k := 155) (args := [.pointer pl]) (high_cr (hl'.to st3.ext hno)) body_155 (by kernel_rfl)) ?_
      rintro _ _ ⟨_, rfl, rfl, rfl⟩
      refine ⟨trivial, ?_⟩
      refine RS_e rfl rfl (ef_call (k := 155) (args := [.pointer pr]) (high_cr (hr'.to st3.ext hno)) body_155 (by kernel_rfl)) ?_
      rintro _ _ ⟨_, rfl, rfl, rfl⟩
      refine ⟨trivial, ?_⟩
      refine RS_sg 3 [.p (.int .i64 (IntKind.i64.wrap (((r.high : Nat) : Int) + 1))), .p (.bool (decide (((l.high : Nat) : Int) > (IntKind.i64.wrap (((r.high : Nat) : Int) + 1))))), .p (.bool (decide (((l.high : Nat) : Int) > (IntKind.i64.wrap (((r.high : Nat) : Int) + 1)))))] [(0, a1), (1, a2), (2, .pointer pl), (3, .pointer pr), (18, .bool (decide (((l.high : Nat) : Int) > (IntKind.i64.wrap (((r.high : Nat) : Int) + 1)))))] trivial (fun _ hS => trivial) ?_
      refine RS_at (m' := [(0, a1), (1, a2), (2, .pointer pl), (3, .pointer pr), (18, .bool false)]) (by rw [hcA]) ?_
      refine RS_sg 8 [.no, .no, .no, .no, .no, .no, .no, .no] [(0, a1), (1, a2), (2, .pointer pl), (3, .pointer pr), (18, .bool false), (22, undef), (27, undef)] trivial (fun _ hS => trivial) ?_
      refine RS_noe rfl (fun d h => by injection h with h; subst h; rfl) rfl (by decide) (trivial) ?_
      refine RS_noe rfl (fun d h => by injection h with h; subst h; rfl) rfl (by decide) (trivial) ?_
      refine RS_sg 3 [.no, .p (.bool false), .p (.bool false)] [(0, a1), (1, a2), (2, .pointer pl), (3, .pointer pr), (11, .bool false)] trivial (fun _ hS => trivial) ?_
      refine RS_nil <| n_then <| W_false rfl ?_
      refine W_seq <| W_region <| RP_sg 1 [.p (.pointer pl)] [(0, a1), (1, a2), (2, .pointer pl), (3, .pointer pr), (47, .pointer pl)] trivial ?_
      refine RP_e rfl (ef_call (k := 155) (args := [.pointer pl]) (high_cr (hl'.to st3.ext hno)) body_155 (by kernel_rfl)) ?_
      rintro _ _ ⟨_, rfl, rfl, rfl⟩
      refine RP_sg 1 [.p (.pointer pr)] [(0, a1), (1, a2), (2, .pointer pl), (3, .pointer pr), (48, .int .i64 ((l.high : Nat) : Int)), (49, .pointer pr)] trivial ?_
      refine RP_e rfl (ef_call (k := 155) (args := [.pointer pr]) (high_cr (hr'.to st3.ext hno)) body_155 (by kernel_rfl)) ?_
      rintro _ _ ⟨_, rfl, rfl, rfl⟩
      refine RP_sg 3 [.p (.int .i64 (IntKind.i64.wrap (((r.high : Nat) : Int) + 1))), .p (.bool (decide (((l.high : Nat) : Int) > (IntKind.i64.wrap (((r.high : Nat) : Int) + 1))))), .p (.bool (decide (((l.high : Nat) : Int) > (IntKind.i64.wrap (((r.high : Nat) : Int) + 1)))))] [(0, a1), (1, a2), (2, .pointer pl), (3, .pointer pr), (46, .bool (decide (((l.high : Nat) : Int) > (IntKind.i64.wrap (((r.high : Nat) : Int) + 1)))))] trivial ?_
      refine RP_nil <| n_then <| W_false' rfl hcA ?_
      refine W_seq <| W_regionS ⟨(fun _ => True), (fun _ => True)⟩ (.cons 1 0 (.cons 1 2 (.cons 2 1 (.cons 2 3 (.cons 1 4 (.cons 1 5 (.cons 1 6 (.cons 1 7 (.cons 1 8 (.cons 1 9 (.cons 1 10 (.cons 1 12 (.cons 1 13 (.cons 1 14 (.cons 1 15 (.cons 2 11 (.cons 2 16 (.cons 1 17 (.cons 1 18 (.cons 1 19 .nil)))))))))))))))))))) 20 (by kernel_rfl) (by kernel_rfl) ?_
      have st16 := st3.drew
      refine RS_sg 2 [.p (.pointer pr), .p (.pointer pl)] [(0, a1), (1, a2), (2, .pointer pl), (3, .pointer pr), (80, .pointer pr), (82, .pointer pl)] trivial (fun _ hS => trivial) ?_
      refine RS_e rfl rfl (ef_call (k := 155) (args := [.pointer pr]) (high_cr (hr'.to st16.ext hno)) body_155 (by kernel_rfl)) ?_
      rintro _ _ ⟨_, rfl, rfl, rfl⟩
      refine ⟨trivial, ?_⟩
      refine RS_e rfl rfl (ef_call (k := 155) (args := [.pointer pl]) (high_cr (hl'.to st16.ext hno)) body_155 (by kernel_rfl)) ?_
      rintro _ _ ⟨_, rfl, rfl, rfl⟩
      refine ⟨trivial, ?_⟩
      refine RS_sg 3 [.p (.int .i64 (IntKind.i64.wrap (((l.high : Nat) : Int) + 1))), .p (.bool (decide (((r.high : Nat) : Int) > (IntKind.i64.wrap (((l.high : Nat) : Int) + 1))))), .p (.bool (decide (((r.high : Nat) : Int) > (IntKind.i64.wrap (((l.high : Nat) : Int) + 1)))))] [(0, a1), (1, a2), (2, .pointer pl), (3, .pointer pr), (86, .bool (decide (((r.high : Nat) : Int) > (IntKind.i64.wrap (((l.high : Nat) : Int) + 1)))))] trivial (fun _ hS => trivial) ?_
      refine RS_at (m' := [(0, a1), (1, a2), (2, .pointer pl), (3, .pointer pr), (86, .bool false)]) (by rw [hcB]) ?_
      refine RS_sg 8 [.no, .no, .no, .no, .no, .no, .no, .no] [(0, a1), (1, a2), (2, .pointer pl), (3, .pointer pr), (86, .bool false), (90, undef), (95, undef)] trivial (fun _ hS => trivial) ?_
      refine RS_noe rfl (fun d h => by injection h with h; subst h; rfl) rfl (by decide) (trivial) ?_
      refine RS_noe rfl (fun d h => by injection h with h; subst h; rfl) rfl (by decide) (trivial) ?_
      refine RS_sg 3 [.no, .p (.bool false), .p (.bool false)] [(0, a1), (1, a2), (2, .pointer pl), (3, .pointer pr), (79, .bool false)] trivial (fun _ hS => trivial) ?_
      refine RS_nil <| n_then <| W_false rfl ?_
      refine W_seq <| W_region <| RP_sg 1 [.p (.pointer pr)] [(0, a1), (1, a2), (2, .pointer pl), (3, .pointer pr), (115, .pointer pr)] trivial ?_
      refine RP_e rfl (ef_call (k := 155) (args := [.pointer pr]) (high_cr (hr'.to st16.ext hno)) body_155 (by kernel_rfl)) ?_
      rintro _ _ ⟨_, rfl, rfl, rfl⟩
      refine RP_sg 1 [.p (.pointer pl)] [(0, a1), (1, a2), (2, .pointer pl), (3, .pointer pr), (116, .int .i64 ((r.high : Nat) : Int)), (117, .pointer pl)] trivial ?_
      refine RP_e rfl (ef_call (k := 155) (args := [.pointer pl]) (high_cr (hl'.to st16.ext hno)) body_155 (by kernel_rfl)) ?_
      rintro _ _ ⟨_, rfl, rfl, rfl⟩
      refine RP_sg 3 [.p (.int .i64 (IntKind.i64.wrap (((l.high : Nat) : Int) + 1))), .p (.bool (decide (((r.high : Nat) : Int) > (IntKind.i64.wrap (((l.high : Nat) : Int) + 1))))), .p (.bool (decide (((r.high : Nat) : Int) > (IntKind.i64.wrap (((l.high : Nat) : Int) + 1)))))] [(0, a1), (1, a2), (2, .pointer pl), (3, .pointer pr), (114, .bool (decide (((r.high : Nat) : Int) > (IntKind.i64.wrap (((l.high : Nat) : Int) + 1)))))] trivial ?_
      refine RP_nil <| n_then <| W_false' rfl hcB ?_
      refine W_skip <| n_block <| n_then <| W_seq <| W_region <| RP_sg 4 [.p a1, .p a2, .p (.pointer pl), .p (.pointer pr)] [(147, a1), (148, a2), (149, .pointer pl), (150, .pointer pr)] trivial ?_
      refine RP_e rfl (ef_call (k := 147) (args := [a1, a2, .pointer pl, .pointer pr]) (over_cr ⟨htb.ext st16.ext hnt, st16.get 0 rfl⟩ (hx.ext st16.ext hnx) (hl'.to st16.ext hno) (hr'.to st16.ext hno) (by (try simp only [T.size] at *) <;> omega)) body_147 (by kernel_rfl)) ?_
      rintro _ w29 ⟨_, rfl, o1, rfl, ho1, hi1, ⟨-, hbj⟩, hx31⟩
      have st30 := st16.turned 0 rfl (.inl (by simp)) hbj hx31
      have st32 : St [bm] w w29 [(bm, 205, [.int .i64 (addj (j) (T.joins l r))])] := st30
      let a33 : Value := .pointer (some ⟨o1, 0, none⟩)
      refine RP_sg 1 [.p a33] [(8, a33)] trivial ?_
      refine RP_nil <| n_then <| W_ret ?_
      have hbe := st32.get 0 rfl
      try simp only [addj_add] at hbe
      refine ret_of (P := Tryd.prog) (fn := Tryd.f148) (m := [(8, .pointer (some ⟨o1, 0, none⟩))]) (w := w29) (res1 rfl (rv_tmp rfl)) ?_
      exact ⟨o1, rfl, hi1, ⟨htb.ext st32.ext hnt, by simpa [Nat.add_assoc] using hbe⟩, st32.ext⟩
end Go.Proofs.YtcopemgkjbaaeaaDoor
namespace Go.Proofs.YtcopemgkjbaaeaaDoor
set_option linter.all false
open Go.RowKit
def kgt (a b : ByteArray) : Bool := !(Op.bytesLess a.toList b.toList || a.toList == b.toList)
def T.put (e : Ent) : T → T
  | .nil => .node e .nil .nil
  | .node x l r => cond (klt e.key x.key) (T.even x (T.put e l) r) (cond (kgt e.key x.key) (T.even x l (T.put e r)) (.node e l r))
def T.putJ (e : Ent) : T → Nat
  | .nil => 0
  | .node x l r => cond (klt e.key x.key) (T.putJ e l + T.evenJ x (T.put e l) r) (cond (kgt e.key x.key) (T.putJ e r + T.evenJ x l (T.put e r)) (T.joins l r))
theorem T.even_size (e : Ent) (l r : T) : (T.even e l r).size ≤ l.size + r.size + 1 := by
  unfold T.even
  split
  · split
    · simp [T.size]
    · split
      · simp only [T.size]; omega
      · split <;> simp only [T.size] <;> omega
  · split
    · split
      · simp [T.size]
      · split
        · simp only [T.size]; omega
        · split <;> simp only [T.size] <;> omega
    · simp only [T.size]; omega
theorem T.put_size (e : Ent) : ∀ t : T, (T.put e t).size ≤ t.size + 1
  | .nil => by simp [T.put, T.size]
  | .node x l r => by
    have h1 := T.put_size e l; have h2 := T.put_size e r
    have h3 := T.even_size x (T.put e l) r; have h4 := T.even_size x l (T.put e r)
    unfold T.put
    cases klt e.key x.key <;> cases kgt e.key x.key <;> simp only [cond_true, cond_false, T.size] at * <;> omega
theorem over_cr0 {w : World} {bt bm : Nat} {j : Int} {p pl pr : Option Addr} {gx : Nat} {e : Ent} {s : Tal} {ql qr : Option Addr} {m0 h0 : Int} {l r : T}
    (hT : Tr w bt bm j p) (hx : Blk w gx 181 (nodeCells e s ql qr m0 h0)) (hl : IsT w pl l) (hr : IsT w pr r) (hs : l.size + r.size ≤ 1000000) :
    CR Tryd.prog 147 [.pointer (some ⟨bt, 0, none⟩), .pointer (some ⟨gx, 0, none⟩), .pointer pl, .pointer pr] w fun v w' =>
      ∃ g, v = .pointer (some ⟨g, 0, none⟩) ∧ IsT w' (some ⟨g, 0, none⟩) (.node e l r) ∧ Tr w' bt bm (addj j (T.joins l r)) p ∧ Ext [bm] w w' :=
  (over_cr hT hx hl hr hs).mono fun _ _ ⟨g, h1, _, h2⟩ => ⟨g, h1, h2⟩
theorem put_cr {bt bm : Nat} {p : Option Addr} {gx : Nat} {e : Ent} {s : Tal} {ql qr : Option Addr} {m0 h0 : Int} : ∀ (t : T) {w : World} {j : Int} {pt : Option Addr}
    (_ : Tr w bt bm j p) (_ : Blk w gx 181 (nodeCells e s ql qr m0 h0)) (_ : IsT w pt t) (_ : t.size ≤ 10000),
    CR Tryd.prog 133 [.pointer (some ⟨bt, 0, none⟩), .pointer pt, .pointer (some ⟨gx, 0, none⟩)] w fun v w' =>
      ∃ g, v = .pointer (some ⟨g, 0, none⟩) ∧ IsT w' (some ⟨g, 0, none⟩) (T.put e t) ∧ Tr w' bt bm (addj j (T.putJ e t)) p ∧ Ext [bm] w w'
  | .nil, w, j, pt, hT, hx, ht, hs => by
    have hnt : bt ∉ [bm] := by simpa using hT.ne
    have hnx : gx ∉ [bm] := by simpa using (hx.ne_ hT.m (by decide))
    have hno := NoNode.meter hT.m
    have st := (St.init w [bm]).add hT.m (by simp)
    have htb := hT.t
    obtain rfl : pt = none := ht
    unfold T.put T.putJ
    refine CR_enter Tryd.func133 rfl Tryd.ntmps133 rfl ?_
    refine W_seq <| W_region ?_
    let a1 : Value := .pointer (some ⟨bt, 0, none⟩)
    let a2 : Value := .pointer (some ⟨gx, 0, none⟩)
    refine RP_sg 1 [.p (.pointer none)] [(0, a1), (1, .pointer none), (2, a2)] trivial ?_
    refine RP_nil <| n_then <| W_seq <| W_block <| W_seq <| W_region <| RP_sg 3 [.p (.pointer none), .p (.bool true), .p (.bool true)] [(0, a1), (1, .pointer none), (2, a2), (7, .bool true)] trivial ?_
    refine RP_nil <| n_then <| W_true rfl ?_
    refine W_seq <| W_region <| RP_sg 2 [.p a1, .p a2] [(10, a1), (11, a2)] trivial ?_
    refine RP_e rfl (ef_call (k := 147) (args := [a1, a2, .pointer none, .pointer none]) (over_cr0 ⟨htb.ext st.ext hnt, st.get 0 rfl⟩ (hx.ext st.ext hnx) (show IsT _ none T.nil from rfl) (show IsT _ none T.nil from rfl) (by (try simp only [T.size] at *) <;> omega)) body_147 (by kernel_rfl)) ?_
    rintro _ w3 ⟨_, rfl, o1, rfl, hi1, ⟨-, hbj⟩, hx5⟩
    have st4 := st.turned 0 rfl (.inl (by simp)) hbj hx5
    have st6 : St [bm] w w3 [(bm, 205, [.int .i64 (addj (j) (T.joins .nil .nil))])] := st4
    let a7 : Value := .pointer (some ⟨o1, 0, none⟩)
    refine RP_sg 1 [.p a7] [(6, a7)] trivial ?_
    refine RP_nil <| n_then <| W_ret <| r_block <| r_then ?_
    have hbe := st6.get 0 rfl
    try simp only [addj_add] at hbe
    refine ret_of (P := Tryd.prog) (fn := Tryd.f133) (m := [(6, .pointer (some ⟨o1, 0, none⟩))]) (w := w3) (res1 rfl (rv_tmp rfl)) ?_
    exact ⟨o1, rfl, hi1, ⟨htb.ext st6.ext hnt, hbe⟩, st6.ext⟩
  | .node x l r, w, j, pt, hT, hx, ht, hs => by
    have ihl := fun {w j pt} => put_cr (bt := bt) (bm := bm) (p := p) (gx := gx) (e := e) (s := s) (ql := ql) (qr := qr) (m0 := m0) (h0 := h0) l (w := w) (j := j) (pt := pt)
    have ihr := fun {w j pt} => put_cr (bt := bt) (bm := bm) (p := p) (gx := gx) (e := e) (s := s) (ql := ql) (qr := qr) (m0 := m0) (h0 := h0) r (w := w) (j := j) (pt := pt)
    have hnt : bt ∉ [bm] := by simpa using hT.ne
    have hnx : gx ∉ [bm] := by simpa using (hx.ne_ hT.m (by decide))
    have hno := NoNode.meter hT.m
    have st := (St.init w [bm]).add hT.m (by simp)
    have htb := hT.t
    obtain ⟨gn, pl, pr, rfl, hbn, hl, hr⟩ := ht
    have hnn : gn ∉ [bm] := by simpa using (hbn.ne_ hT.m (by decide))
    unfold T.put T.putJ
    rcases Bool.eq_false_or_eq_true (klt e.key x.key) with hlt | hlt
    · rw [hlt]
      simp only [cond_true]
      unfold klt at hlt
      refine CR_enter Tryd.func133 rfl Tryd.ntmps133 rfl ?_
      refine W_seq <| W_region ?_
      let a1 : Value := .pointer (some ⟨bt, 0, none⟩)
      let a2 : Value := .pointer (some ⟨gn, 0, none⟩)
      let a3 : Value := .pointer (some ⟨gx, 0, none⟩)
      refine RP_sg 1 [.p (.pointer none)] [(0, a1), (1, a2), (2, a3)] trivial ?_
      refine RP_nil <| n_then <| W_seq <| W_block <| W_seq <| W_region <| RP_sg 3 [.p a2, .p (.bool false), .p (.bool false)] [(0, a1), (1, a2), (2, a3), (7, .bool false)] trivial ?_
      refine RP_nil <| n_then <| W_false rfl ?_
      refine W_seq <| W_regionS ⟨(fun w' => Blk w' gx 181 [.string e.key, .string e.key, .int .i64 e.c, .int .i64 e.n, .string e.val, .bool e.dead, .int .i64 e.tal.k, .int .u64 e.tal.a, .int .u64 e.tal.b, .int .i64 s.k, .int .u64 s.a, .int .u64 s.b, .pointer ql, .pointer qr, .int .i64 m0, .int .i64 h0].toArray ∧ Blk w' gn 181 [.string x.key, .string x.key, .int .i64 x.c, .int .i64 x.n, .string x.val, .bool x.dead, .int .i64 x.tal.k, .int .u64 x.tal.a, .int .u64 x.tal.b, .int .i64 ((T.node x l r).sum.k), .int .u64 ((T.node x l r).sum.a), .int .u64 ((T.node x l r).sum.b), .pointer pl, .pointer pr, .int .i64 (((T.node x l r).size : Nat) : Int), .int .i64 (((T.node x l r).high : Nat) : Int)].toArray), (fun _ => True)⟩ (.cons 1 0 (.cons 1 1 (.cons 1 2 (.cons 1 3 (.cons 1 4 (.cons 1 5 (.cons 1 6 (.cons 1 7 (.cons 1 8 (.cons 1 9 .nil)))))))))) 10 (by kernel_rfl) (by kernel_rfl) ?_
      have st4 := st.drew
      refine RS_sg 10 [.p a3, .p a3, .p a3, .l 9 a3 (.string e.key), .p a2, .p a2, .p a2, .l 9 a2 (.string x.key), .p (.bool (Op.bytesLess (e.key).toList (x.key).toList)), .p (.bool (Op.bytesLess (e.key).toList (x.key).toList))] [(0, a1), (1, a2), (2, a3), (13, .bool (Op.bytesLess (e.key).toList (x.key).toList))] (⟨hx.ext st4.ext hnx, hbn.ext st4.ext hnn⟩) (fun _ hS => ⟨ld1b (hS.1) nagg_9 rfl, ld1b (hS.2) nagg_9 rfl, trivial⟩) ?_
      refine RS_nil <| n_then <| W_true' rfl hlt ?_
      refine W_seq <| W_regionS ⟨(fun w' => Blk w' gn 181 [.string x.key, .string x.key, .int .i64 x.c, .int .i64 x.n, .string x.val, .bool x.dead, .int .i64 x.tal.k, .int .u64 x.tal.a, .int .u64 x.tal.b, .int .i64 ((T.node x l r).sum.k), .int .u64 ((T.node x l r).sum.a), .int .u64 ((T.node x l r).sum.b), .pointer pl, .pointer pr, .int .i64 (((T.node x l r).size : Nat) : Int), .int .i64 (((T.node x l r).high : Nat) : Int)].toArray), (fun _ => True)⟩ (.cons 1 0 (.cons 1 1 (.cons 1 2 (.cons 1 3 (.cons 1 4 (.cons 1 5 (.cons 1 6 (.cons 1 7 (.cons 1 9 (.cons 1 10 (.cons 1 11 (.cons 1 12 (.cons 2 8 (.cons 2 13 (.cons 0 14 .nil))))))))))))))) 15 (by kernel_rfl) (by kernel_rfl) ?_
      have st5 := st4.drew
      refine RS_sg 12 [.p a1, .p a2, .p a1, .p a2, .p a2, .p (.pointer (some ⟨gn, 12, none⟩)), .l 177 (.pointer (some ⟨gn, 12, none⟩)) (.pointer pl), .p a3, .p a2, .p a2, .p (.pointer (some ⟨gn, 13, none⟩)), .l 177 (.pointer (some ⟨gn, 13, none⟩)) (.pointer pr)] [(23, a1), (24, a2), (25, a1), (29, .pointer pl), (30, a3), (35, .pointer pr)] (hbn.ext st5.ext hnn) (fun _ hS => ⟨ld1b (hS) nagg_177 rfl, ld1b (hS) nagg_177 rfl, trivial⟩) ?_
      refine RS_e rfl rfl (ef_call (k := 133) (args := [a1, .pointer pl, a3]) (ihl ⟨htb.ext st5.ext hnt, st5.get 0 rfl⟩ (hx.ext st5.ext hnx) (hl.to st5.ext hno) (by (try simp only [T.size] at *) <;> omega)) body_133 (by kernel_rfl)) ?_
      rintro _ w6 ⟨_, rfl, o1, rfl, hi1, ⟨-, hbj⟩, hx8⟩
      have st7 := st5.turned 0 rfl (.inl (by simp)) hbj hx8
      have st9 : St [bm] w w6 [(bm, 205, [.int .i64 (addj (j) (T.putJ e l))])] := st7
      refine ⟨hbn.ext st9.ext hnn, ?_⟩
      refine RS_e rfl rfl (ef_call (k := 148) (args := [a1, a2, .pointer (some ⟨o1, 0, none⟩), .pointer pr]) (even_cr ⟨htb.ext st9.ext hnt, st9.get 0 rfl⟩ (hbn.ext st9.ext hnn) hi1 (hr.to st9.ext hno) (by have := T.put_size e l; (try simp only [T.size] at *) <;> omega)) body_148 (by kernel_rfl)) ?_
      rintro _ w10 ⟨_, rfl, o2, rfl, hi2, ⟨-, hbj⟩, hx12⟩
      have st11 := st9.turned 0 rfl (.inl (by simp)) hbj hx12
      replace hi1 := hi1.to hx12 (NoNode.meter (st9.get 0 rfl))
      have st13 : St [bm] w w10 [(bm, 205, [.int .i64 (addj (addj (j) (T.putJ e l)) (T.evenJ x (T.put e l) r))])] := st11
      refine ⟨hbn.ext st13.ext hnn, ?_⟩
      let a14 : Value := .pointer (some ⟨o2, 0, none⟩)
      refine RS_sgP 1 [.p a14] [(6, a14)] (fun _ => trivial) ?_
      refine RS_nil <| n_then <| W_ret <| r_block <| r_then ?_
      have hbe := st13.get 0 rfl
      try simp only [addj_add] at hbe
      refine ret_of (P := Tryd.prog) (fn := Tryd.f133) (m := [(6, .pointer (some ⟨o2, 0, none⟩))]) (w := w10) (res1 rfl (rv_tmp rfl)) ?_
      exact ⟨o2, rfl, hi2, ⟨htb.ext st13.ext hnt, hbe⟩, st13.ext⟩
    · rw [hlt]
      unfold klt at hlt
      rcases Bool.eq_false_or_eq_true (kgt e.key x.key) with hgt | hgt
      · rw [hgt]
        simp only [cond_true, cond_false]
        unfold kgt at hgt
        refine CR_enter Tryd.func133 rfl Tryd.ntmps133 rfl ?_
        refine W_seq <| W_region ?_
        let a1 : Value := .pointer (some ⟨bt, 0, none⟩)
        let a2 : Value := .pointer (some ⟨gn, 0, none⟩)
        let a3 : Value := .pointer (some ⟨gx, 0, none⟩)
        refine RP_sg 1 [.p (.pointer none)] [(0, a1), (1, a2), (2, a3)] trivial ?_
        refine RP_nil <| n_then <| W_seq <| W_block <| W_seq <| W_region <| RP_sg 3 [.p a2, .p (.bool false), .p (.bool false)] [(0, a1), (1, a2), (2, a3), (7, .bool false)] trivial ?_
        refine RP_nil <| n_then <| W_false rfl ?_
        refine W_seq <| W_regionS ⟨(fun w' => Blk w' gx 181 [.string e.key, .string e.key, .int .i64 e.c, .int .i64 e.n, .string e.val, .bool e.dead, .int .i64 e.tal.k, .int .u64 e.tal.a, .int .u64 e.tal.b, .int .i64 s.k, .int .u64 s.a, .int .u64 s.b, .pointer ql, .pointer qr, .int .i64 m0, .int .i64 h0].toArray ∧ Blk w' gn 181 [.string x.key, .string x.key, .int .i64 x.c, .int .i64 x.n, .string x.val, .bool x.dead, .int .i64 x.tal.k, .int .u64 x.tal.a, .int .u64 x.tal.b, .int .i64 ((T.node x l r).sum.k), .int .u64 ((T.node x l r).sum.a), .int .u64 ((T.node x l r).sum.b), .pointer pl, .pointer pr, .int .i64 (((T.node x l r).size : Nat) : Int), .int .i64 (((T.node x l r).high : Nat) : Int)].toArray), (fun _ => True)⟩ (.cons 1 0 (.cons 1 1 (.cons 1 2 (.cons 1 3 (.cons 1 4 (.cons 1 5 (.cons 1 6 (.cons 1 7 (.cons 1 8 (.cons 1 9 .nil)))))))))) 10 (by kernel_rfl) (by kernel_rfl) ?_
        have st4 := st.drew
        refine RS_sg 10 [.p a3, .p a3, .p a3, .l 9 a3 (.string e.key), .p a2, .p a2, .p a2, .l 9 a2 (.string x.key), .p (.bool (Op.bytesLess (e.key).toList (x.key).toList)), .p (.bool (Op.bytesLess (e.key).toList (x.key).toList))] [(0, a1), (1, a2), (2, a3), (13, .bool (Op.bytesLess (e.key).toList (x.key).toList))] (⟨hx.ext st4.ext hnx, hbn.ext st4.ext hnn⟩) (fun _ hS => ⟨ld1b (hS.1) nagg_9 rfl, ld1b (hS.2) nagg_9 rfl, trivial⟩) ?_
        refine RS_nil <| n_then <| W_false' rfl hlt ?_
        refine W_seq <| W_regionS ⟨(fun w' => Blk w' gx 181 [.string e.key, .string e.key, .int .i64 e.c, .int .i64 e.n, .string e.val, .bool e.dead, .int .i64 e.tal.k, .int .u64 e.tal.a, .int .u64 e.tal.b, .int .i64 s.k, .int .u64 s.a, .int .u64 s.b, .pointer ql, .pointer qr, .int .i64 m0, .int .i64 h0].toArray ∧ Blk w' gn 181 [.string x.key, .string x.key, .int .i64 x.c, .int .i64 x.n, .string x.val, .bool x.dead, .int .i64 x.tal.k, .int .u64 x.tal.a, .int .u64 x.tal.b, .int .i64 ((T.node x l r).sum.k), .int .u64 ((T.node x l r).sum.a), .int .u64 ((T.node x l r).sum.b), .pointer pl, .pointer pr, .int .i64 (((T.node x l r).size : Nat) : Int), .int .i64 (((T.node x l r).high : Nat) : Int)].toArray), (fun _ => True)⟩ (.cons 1 0 (.cons 1 1 (.cons 1 2 (.cons 1 3 (.cons 1 4 (.cons 1 5 (.cons 1 6 (.cons 1 7 (.cons 1 8 (.cons 1 9 .nil)))))))))) 10 (by kernel_rfl) (by kernel_rfl) ?_
        have st5 := st4.drew
        refine RS_sg 10 [.p a3, .p a3, .p a3, .l 9 a3 (.string e.key), .p a2, .p a2, .p a2, .l 9 a2 (.string x.key), .p (.bool (!(Op.bytesLess (e.key).toList (x.key).toList || (e.key).toList == (x.key).toList))), .p (.bool (!(Op.bytesLess (e.key).toList (x.key).toList || (e.key).toList == (x.key).toList)))] [(0, a1), (1, a2), (2, a3), (37, .bool (!(Op.bytesLess (e.key).toList (x.key).toList || (e.key).toList == (x.key).toList)))] (⟨hx.ext st5.ext hnx, hbn.ext st5.ext hnn⟩) (fun _ hS => ⟨ld1b (hS.1) nagg_9 rfl, ld1b (hS.2) nagg_9 rfl, trivial⟩) ?_
        refine RS_nil <| n_then <| W_true' rfl hgt ?_
        refine W_seq <| W_regionS ⟨(fun w' => Blk w' gn 181 [.string x.key, .string x.key, .int .i64 x.c, .int .i64 x.n, .string x.val, .bool x.dead, .int .i64 x.tal.k, .int .u64 x.tal.a, .int .u64 x.tal.b, .int .i64 ((T.node x l r).sum.k), .int .u64 ((T.node x l r).sum.a), .int .u64 ((T.node x l r).sum.b), .pointer pl, .pointer pr, .int .i64 (((T.node x l r).size : Nat) : Int), .int .i64 (((T.node x l r).high : Nat) : Int)].toArray), (fun _ => True)⟩ (.cons 1 0 (.cons 1 1 (.cons 1 2 (.cons 1 3 (.cons 1 4 (.cons 1 5 (.cons 1 6 (.cons 1 7 (.cons 1 8 (.cons 1 9 (.cons 1 10 (.cons 1 11 (.cons 2 12 (.cons 2 13 (.cons 0 14 .nil))))))))))))))) 15 (by kernel_rfl) (by kernel_rfl) ?_
        have st6 := st5.drew
        refine RS_sg 12 [.p a1, .p a2, .p a2, .p a2, .p (.pointer (some ⟨gn, 12, none⟩)), .l 177 (.pointer (some ⟨gn, 12, none⟩)) (.pointer pl), .p a1, .p a2, .p a2, .p (.pointer (some ⟨gn, 13, none⟩)), .l 177 (.pointer (some ⟨gn, 13, none⟩)) (.pointer pr), .p a3] [(47, a1), (48, a2), (52, .pointer pl), (53, a1), (57, .pointer pr), (58, a3)] (hbn.ext st6.ext hnn) (fun _ hS => ⟨ld1b (hS) nagg_177 rfl, ld1b (hS) nagg_177 rfl, trivial⟩) ?_
        refine RS_e rfl rfl (ef_call (k := 133) (args := [a1, .pointer pr, a3]) (ihr ⟨htb.ext st6.ext hnt, st6.get 0 rfl⟩ (hx.ext st6.ext hnx) (hr.to st6.ext hno) (by (try simp only [T.size] at *) <;> omega)) body_133 (by kernel_rfl)) ?_
        rintro _ w7 ⟨_, rfl, o1, rfl, hi1, ⟨-, hbj⟩, hx9⟩
        have st8 := st6.turned 0 rfl (.inl (by simp)) hbj hx9
        have st10 : St [bm] w w7 [(bm, 205, [.int .i64 (addj (j) (T.putJ e r))])] := st8
        refine ⟨hbn.ext st10.ext hnn, ?_⟩
        refine RS_e rfl rfl (ef_call (k := 148) (args := [a1, a2, .pointer pl, .pointer (some ⟨o1, 0, none⟩)]) (even_cr ⟨htb.ext st10.ext hnt, st10.get 0 rfl⟩ (hbn.ext st10.ext hnn) (hl.to st10.ext hno) hi1 (by have := T.put_size e r; (try simp only [T.size] at *) <;> omega)) body_148 (by kernel_rfl)) ?_
        rintro _ w11 ⟨_, rfl, o2, rfl, hi2, ⟨-, hbj⟩, hx13⟩
        have st12 := st10.turned 0 rfl (.inl (by simp)) hbj hx13
        replace hi1 := hi1.to hx13 (NoNode.meter (st10.get 0 rfl))
        have st14 : St [bm] w w11 [(bm, 205, [.int .i64 (addj (addj (j) (T.putJ e r)) (T.evenJ x l (T.put e r)))])] := st12
        refine ⟨hbn.ext st14.ext hnn, ?_⟩
        let a15 : Value := .pointer (some ⟨o2, 0, none⟩)
        refine RS_sgP 1 [.p a15] [(6, a15)] (fun _ => trivial) ?_
        refine RS_nil <| n_then <| W_ret <| r_block <| r_then ?_
        have hbe := st14.get 0 rfl
        try simp only [addj_add] at hbe
        refine ret_of (P := Tryd.prog) (fn := Tryd.f133) (m := [(6, .pointer (some ⟨o2, 0, none⟩))]) (w := w11) (res1 rfl (rv_tmp rfl)) ?_
        exact ⟨o2, rfl, hi2, ⟨htb.ext st14.ext hnt, hbe⟩, st14.ext⟩
      · rw [hgt]
        simp only [cond_false]
        unfold kgt at hgt
        refine CR_enter Tryd.func133 rfl Tryd.ntmps133 rfl ?_
        refine W_seq <| W_region ?_
        let a1 : Value := .pointer (some ⟨bt, 0, none⟩)
        let a2 : Value := .pointer (some ⟨gn, 0, none⟩)
        let a3 : Value := .pointer (some ⟨gx, 0, none⟩)
        refine RP_sg 1 [.p (.pointer none)] [(0, a1), (1, a2), (2, a3)] trivial ?_
        refine RP_nil <| n_then <| W_seq <| W_block <| W_seq <| W_region <| RP_sg 3 [.p a2, .p (.bool false), .p (.bool false)] [(0, a1), (1, a2), (2, a3), (7, .bool false)] trivial ?_
        refine RP_nil <| n_then <| W_false rfl ?_
        refine W_seq <| W_regionS ⟨(fun w' => Blk w' gx 181 [.string e.key, .string e.key, .int .i64 e.c, .int .i64 e.n, .string e.val, .bool e.dead, .int .i64 e.tal.k, .int .u64 e.tal.a, .int .u64 e.tal.b, .int .i64 s.k, .int .u64 s.a, .int .u64 s.b, .pointer ql, .pointer qr, .int .i64 m0, .int .i64 h0].toArray ∧ Blk w' gn 181 [.string x.key, .string x.key, .int .i64 x.c, .int .i64 x.n, .string x.val, .bool x.dead, .int .i64 x.tal.k, .int .u64 x.tal.a, .int .u64 x.tal.b, .int .i64 ((T.node x l r).sum.k), .int .u64 ((T.node x l r).sum.a), .int .u64 ((T.node x l r).sum.b), .pointer pl, .pointer pr, .int .i64 (((T.node x l r).size : Nat) : Int), .int .i64 (((T.node x l r).high : Nat) : Int)].toArray), (fun _ => True)⟩ (.cons 1 0 (.cons 1 1 (.cons 1 2 (.cons 1 3 (.cons 1 4 (.cons 1 5 (.cons 1 6 (.cons 1 7 (.cons 1 8 (.cons 1 9 .nil)))))))))) 10 (by kernel_rfl) (by kernel_rfl) ?_
        have st4 := st.drew
        refine RS_sg 10 [.p a3, .p a3, .p a3, .l 9 a3 (.string e.key), .p a2, .p a2, .p a2, .l 9 a2 (.string x.key), .p (.bool (Op.bytesLess (e.key).toList (x.key).toList)), .p (.bool (Op.bytesLess (e.key).toList (x.key).toList))] [(0, a1), (1, a2), (2, a3), (13, .bool (Op.bytesLess (e.key).toList (x.key).toList))] (⟨hx.ext st4.ext hnx, hbn.ext st4.ext hnn⟩) (fun _ hS => ⟨ld1b (hS.1) nagg_9 rfl, ld1b (hS.2) nagg_9 rfl, trivial⟩) ?_
        refine RS_nil <| n_then <| W_false' rfl hlt ?_
        refine W_seq <| W_regionS ⟨(fun w' => Blk w' gx 181 [.string e.key, .string e.key, .int .i64 e.c, .int .i64 e.n, .string e.val, .bool e.dead, .int .i64 e.tal.k, .int .u64 e.tal.a, .int .u64 e.tal.b, .int .i64 s.k, .int .u64 s.a, .int .u64 s.b, .pointer ql, .pointer qr, .int .i64 m0, .int .i64 h0].toArray ∧ Blk w' gn 181 [.string x.key, .string x.key, .int .i64 x.c, .int .i64 x.n, .string x.val, .bool x.dead, .int .i64 x.tal.k, .int .u64 x.tal.a, .int .u64 x.tal.b, .int .i64 ((T.node x l r).sum.k), .int .u64 ((T.node x l r).sum.a), .int .u64 ((T.node x l r).sum.b), .pointer pl, .pointer pr, .int .i64 (((T.node x l r).size : Nat) : Int), .int .i64 (((T.node x l r).high : Nat) : Int)].toArray), (fun _ => True)⟩ (.cons 1 0 (.cons 1 1 (.cons 1 2 (.cons 1 3 (.cons 1 4 (.cons 1 5 (.cons 1 6 (.cons 1 7 (.cons 1 8 (.cons 1 9 .nil)))))))))) 10 (by kernel_rfl) (by kernel_rfl) ?_
        have st5 := st4.drew
        refine RS_sg 10 [.p a3, .p a3, .p a3, .l 9 a3 (.string e.key), .p a2, .p a2, .p a2, .l 9 a2 (.string x.key), .p (.bool (!(Op.bytesLess (e.key).toList (x.key).toList || (e.key).toList == (x.key).toList))), .p (.bool (!(Op.bytesLess (e.key).toList (x.key).toList || (e.key).toList == (x.key).toList)))] [(0, a1), (1, a2), (2, a3), (37, .bool (!(Op.bytesLess (e.key).toList (x.key).toList || (e.key).toList == (x.key).toList)))] (⟨hx.ext st5.ext hnx, hbn.ext st5.ext hnn⟩) (fun _ hS => ⟨ld1b (hS.1) nagg_9 rfl, ld1b (hS.2) nagg_9 rfl, trivial⟩) ?_
        refine RS_nil <| n_then <| W_false' rfl hgt ?_
        refine W_skip <| n_block <| n_then <| W_seq <| W_regionS ⟨(fun w' => Blk w' gn 181 [.string x.key, .string x.key, .int .i64 x.c, .int .i64 x.n, .string x.val, .bool x.dead, .int .i64 x.tal.k, .int .u64 x.tal.a, .int .u64 x.tal.b, .int .i64 ((T.node x l r).sum.k), .int .u64 ((T.node x l r).sum.a), .int .u64 ((T.node x l r).sum.b), .pointer pl, .pointer pr, .int .i64 (((T.node x l r).size : Nat) : Int), .int .i64 (((T.node x l r).high : Nat) : Int)].toArray), (fun _ => True)⟩ (.cons 1 0 (.cons 1 1 (.cons 1 2 (.cons 1 3 (.cons 1 4 (.cons 1 5 (.cons 1 6 (.cons 1 7 (.cons 1 8 (.cons 1 9 (.cons 2 10 (.cons 0 11 .nil)))))))))))) 12 (by kernel_rfl) (by kernel_rfl) ?_
        have st6 := st5.drew
        refine RS_sg 10 [.p a1, .p a3, .p a2, .p a2, .p (.pointer (some ⟨gn, 12, none⟩)), .l 177 (.pointer (some ⟨gn, 12, none⟩)) (.pointer pl), .p a2, .p a2, .p (.pointer (some ⟨gn, 13, none⟩)), .l 177 (.pointer (some ⟨gn, 13, none⟩)) (.pointer pr)] [(61, a1), (62, a3), (66, .pointer pl), (70, .pointer pr)] (hbn.ext st6.ext hnn) (fun _ hS => ⟨ld1b (hS) nagg_177 rfl, ld1b (hS) nagg_177 rfl, trivial⟩) ?_
        refine RS_e rfl rfl (ef_call (k := 147) (args := [a1, a3, .pointer pl, .pointer pr]) (over_cr0 ⟨htb.ext st6.ext hnt, st6.get 0 rfl⟩ (hx.ext st6.ext hnx) (hl.to st6.ext hno) (hr.to st6.ext hno) (by (try simp only [T.size] at *) <;> omega)) body_147 (by kernel_rfl)) ?_
        rintro _ w7 ⟨_, rfl, o1, rfl, hi1, ⟨-, hbj⟩, hx9⟩
        have st8 := st6.turned 0 rfl (.inl (by simp)) hbj hx9
        have st10 : St [bm] w w7 [(bm, 205, [.int .i64 (addj (j) (T.joins l r))])] := st8
        refine ⟨hbn.ext st10.ext hnn, ?_⟩
        let a11 : Value := .pointer (some ⟨o1, 0, none⟩)
        refine RS_sgP 1 [.p a11] [(6, a11)] (fun _ => trivial) ?_
        refine RS_nil <| n_then <| W_ret ?_
        have hbe := st10.get 0 rfl
        try simp only [addj_add] at hbe
        refine ret_of (P := Tryd.prog) (fn := Tryd.f133) (m := [(6, .pointer (some ⟨o1, 0, none⟩))]) (w := w7) (res1 rfl (rv_tmp rfl)) ?_
        exact ⟨o1, rfl, hi1, ⟨htb.ext st10.ext hnt, hbe⟩, st10.ext⟩
theorem newMeter_cr (w : World) : CR Tryd.prog 99 [] w fun v w' => ∃ g, v = .pointer (some ⟨g, 0, none⟩) ∧ w.heap.size ≤ g ∧ Blk w' g 205 #[.int .i64 0] ∧ Ext [] w w' := by
  have st := St.init w []
  refine CR_enter Tryd.func99 rfl Tryd.ntmps99 rfl ?_
  refine W_seq <| W_region <| RP_sg 1 [.p (.pointer none)] [] trivial ?_
  refine RP_nil <| n_then <| W_seq <| W_region ?_
  let a1 : Value := .agg #[.int .i64 0]
  refine RP_sg 1 [.p a1] [(1, a1)] trivial ?_
  refine RP_e rfl (ef_box st rfl rfl) ?_
  rintro _ w2 ⟨gm, rfl, hgm, hgm', st3, hx4⟩
  replace st3 : St [] w w2 [(gm, 205, [.int .i64 0])] := st3
  let a5 : Value := .pointer (some ⟨gm, 0, none⟩)
  refine RP_sg 1 [.p a5] [(0, a5)] trivial ?_
  refine RP_nil <| n_then <| W_ret <| ret_of (P := Tryd.prog) (fn := Tryd.f99) (m := [(0, .pointer (some ⟨gm, 0, none⟩))]) (w := w2) (res1 rfl (rv_tmp rfl)) ?_
  exact ⟨gm, rfl, hgm, st3.get 0 rfl, st3.ext⟩
theorem newTree_cr (w : World) (bm : Nat) : CR Tryd.prog 100 [.agg #[.int .i64 0, .int .u64 0, .int .u64 0], .func (.func 101) #[.pointer (some ⟨bm, 0, none⟩)] #[]] w fun v w' => ∃ g, v = .pointer (some ⟨g, 0, none⟩) ∧ w.heap.size ≤ g ∧
    Blk w' g 179 #[.int .i64 0, .int .u64 0, .int .u64 0, .func (.func 101) #[.pointer (some ⟨bm, 0, none⟩)] #[], .pointer none] ∧ Ext [] w w' := by
  have st := St.init w []
  refine CR_enter Tryd.func100 rfl Tryd.ntmps100 rfl ?_
  refine W_seq <| W_region <| RP_e rfl (ef_box st rfl rfl) ?_
  rintro _ w1 ⟨g4, rfl, hg4, hg4', st2, hx3⟩
  replace st2 : St [] w w1 [(g4, 32, [.int .i64 0, .int .u64 0, .int .u64 0])] := st2
  let a5 : Value := .func (.func 101) #[.pointer (some ⟨bm, 0, none⟩)] #[]
  let a6 : Value := .pointer (some ⟨g4, 0, none⟩)
  refine RP_sg 1 [.p (.pointer none)] [(1, a5), (2, a6)] trivial ?_
  refine RP_nil <| n_then <| W_seq <| W_region ?_
  let a7 : Value := .agg #[.int .i64 0, .int .u64 0, .int .u64 0, a5, .pointer none]
  refine RP_sg 3 [.l 32 a6 (.agg #[.int .i64 0, .int .u64 0, .int .u64 0]), .p a5, .p a7] [(7, a7)] ⟨ldN st2 agg_32 0 rfl rfl rfl, trivial⟩ ?_
  refine RP_e rfl (ef_box st2 rfl rfl) ?_
  rintro _ w8 ⟨gm, rfl, hgm, hgm', st9, hx10⟩
  replace st9 : St [] w w8 [(gm, 179, [.int .i64 0, .int .u64 0, .int .u64 0, .func (.func 101) #[.pointer (some ⟨bm, 0, none⟩)] #[], .pointer none]), (g4, 32, [.int .i64 0, .int .u64 0, .int .u64 0])] := st9
  let a11 : Value := .pointer (some ⟨gm, 0, none⟩)
  refine RP_sg 1 [.p a11] [(4, a11)] trivial ?_
  refine RP_nil <| n_then <| W_ret <| ret_of (P := Tryd.prog) (fn := Tryd.f100) (m := [(4, .pointer (some ⟨gm, 0, none⟩))]) (w := w8) (res1 rfl (rv_tmp rfl)) ?_
  exact ⟨gm, rfl, hgm, st9.get 0 rfl, st9.ext⟩
theorem len_cr {w : World} {bt bm : Nat} {j : Int} {p : Option Addr} {t : T} (hT : Tr w bt bm j p) (ht : IsT w p t) : CR Tryd.prog 111 [.pointer (some ⟨bt, 0, none⟩)] w fun v w' => v = .int .i64 (t.size : Nat) ∧ w = w' := by
  have st := St.init w []
  have htb := hT.t
  refine CR_enter Tryd.func111 rfl Tryd.ntmps111 rfl ?_
  refine W_seq <| W_region ?_
  let a1 : Value := .pointer (some ⟨bt, 0, none⟩)
  refine RP_sg 1 [.p (.int .i64 0)] [(0, a1)] trivial ?_
  refine RP_nil <| n_then <| W_seq <| W_region <| RP_sg 4 [.p a1, .p a1, .p (.pointer (some ⟨bt, 4, none⟩)), .l 177 (.pointer (some ⟨bt, 4, none⟩)) (.pointer p)] [(6, .pointer p)] ⟨ld1b (htb.ext st.ext List.not_mem_nil) nagg_177 rfl, trivial⟩ ?_
  refine RP_e rfl (ef_call (k := 116) (args := [.pointer p]) (many_cr ht) body_116 (by kernel_rfl)) ?_
  rintro _ _ ⟨_, rfl, rfl, rfl⟩
  refine RP_sg 1 [.p (.int .i64 ((t.size : Nat) : Int))] [(2, .int .i64 ((t.size : Nat) : Int))] trivial ?_
  refine RP_nil <| n_then <| W_ret <| ret_of (P := Tryd.prog) (fn := Tryd.f111) (m := [(2, .int .i64 ((t.size : Nat) : Int))]) (w := w) (res1 rfl (rv_tmp rfl)) ?_
  exact ⟨rfl, rfl⟩
end Go.Proofs.YtcopemgkjbaaeaaDoor
namespace Go.Proofs.YtcopemgkjbaaeaaDoor
set_option linter.all false
open Go.RowKit
theorem IsT.cases {w : World} {p : Option Addr} {t : T} (h : IsT w p t) : (t = .nil ∧ p = none) ∨ ∃ e l r g pl pr, t = .node e l r ∧ p = some ⟨g, 0, none⟩ ∧
    Blk w g 181 (nodeCells e (T.node e l r).sum pl pr ((T.node e l r).size : Nat) ((T.node e l r).high : Nat)) ∧ IsT w pl l ∧ IsT w pr r := by
  cases t with
  | nil => exact .inl ⟨rfl, h⟩
  | node e l r => obtain ⟨g, pl, pr, h1, h2, h3, h4⟩ := h; exact .inr ⟨e, l, r, g, pl, pr, rfl, h1, h2, h3, h4⟩
def T.get (k : ByteArray) : T → Option Ent
  | .nil => none
  | .node x l r => cond (klt k x.key) (l.get k) (cond (kgt k x.key) (r.get k) (some x))
def entV : Option Ent → Value
  | none => .agg #[.string ⟨#[]⟩, .int .i64 0, .int .i64 0, .string ⟨#[]⟩, .bool false]
  | some e => e.v
def T.rank (k : ByteArray) : T → Nat
  | .nil => 0
  | .node x l r => cond (klt x.key k) (l.size + 1 + r.rank k) (l.rank k)
theorem T.rank_le (k : ByteArray) : ∀ t : T, t.rank k ≤ t.size
  | .nil => Nat.le_refl _
  | .node x l r => by
    have := T.rank_le k l; have := T.rank_le k r
    unfold T.rank; cases klt x.key k <;> simp only [cond_true, cond_false, T.size] <;> omega
theorem rank_cr {w : World} {bt bm : Nat} {j : Int} {p : Option Addr} {t : T} (k : ByteArray) (hT : Tr w bt bm j p) (ht : IsT w p t) (hs : t.size ≤ 100000) :
    CR Tryd.prog 115 [.pointer (some ⟨bt, 0, none⟩), .string k] w fun v w' => v = .int .i64 (t.rank k : Nat) ∧ w = w' := by
  have st := St.init w []
  have htb := hT.t
  refine CR_enter Tryd.func115 rfl Tryd.ntmps115 rfl ?_
  refine W_seq <| W_region ?_
  let a1 : Value := .pointer (some ⟨bt, 0, none⟩)
  refine RP_sg 1 [.p (.int .i64 0)] [(0, a1), (1, .string k)] trivial ?_
  refine RP_nil <| n_then <| W_seq <| W_region <| RP_sg 1 [.p (.int .i64 0)] [(0, a1), (1, .string k), (5, .int .i64 0)] trivial ?_
  refine RP_nil <| n_then <| W_seq <| W_seq <| W_region <| RP_sg 5 [.p a1, .p a1, .p (.pointer (some ⟨bt, 4, none⟩)), .l 177 (.pointer (some ⟨bt, 4, none⟩)) (.pointer p), .p (.pointer p)] [(1, .string k), (5, .int .i64 0), (6, .pointer p)] ⟨ld1b (htb.ext st.ext List.not_mem_nil) nagg_177 rfl, trivial⟩ ?_
  refine RP_nil <| n_then <| W_block <| W_loop (fun k_ m_ w_ => ∃ (p' : Option Addr) (t' : T) (i : Int) (a : Nat), t'.size = k_ ∧ m_ = [(1, .string k), (5, .int .i64 i), (6, .pointer p')] ∧ w = w_ ∧ IsT w p' t' ∧ i = ((a : Nat) : Int) ∧ a + t'.rank k = t.rank k ∧ a + t'.size ≤ 100000) ⟨p, t, 0, 0, rfl, rfl, rfl, ht, rfl, Nat.zero_add _, by omega⟩ ?_
  rintro _ _ _ ⟨p', t', i, a, rfl, rfl, rfl, ht', hi, hr2, hs3⟩
  rcases ht'.cases with ⟨rfl, rfl⟩ | ⟨x, l, r, gn, pl, pr, rfl, rfl, hbn, hl, hr⟩
  ·
   refine W_seq <| W_seq <| W_region <| RP_sg 2 [.p (.pointer none), .p (.bool false)] [(1, .string k), (5, .int .i64 i), (6, .pointer none), (12, .bool false)] trivial ?_
   refine RP_nil <| n_then <| W_false rfl ?_
   refine W_exit ?_
   refine e_then <| e_loop <| e_here ?_
   refine n_then <| W_seq <| W_region <| RP_sg 2 [.p (.int .i64 i), .p (.int .i64 i)] [(4, .int .i64 i)] trivial ?_
   refine RP_nil <| n_then <| W_ret <| ret_of (P := Tryd.prog) (fn := Tryd.f115) (m := [(4, .int .i64 i)]) (w := w) (res1 rfl (rv_tmp rfl)) ?_
   exact ⟨by rw [hi, ← hr2]; rfl, rfl⟩
  ·
   refine W_seq <| W_seq <| W_region ?_
   let a4 : Value := .pointer (some ⟨gn, 0, none⟩)
   refine RP_sg 2 [.p a4, .p (.bool true)] [(1, .string k), (5, .int .i64 i), (6, a4), (12, .bool true)] trivial ?_
   refine RP_nil <| n_then <| W_true rfl ?_
   refine W_skip <| n_then <| W_block <| W_seq <| W_region <| RP_sg 6 [.p a4, .p a4, .p a4, .l 9 a4 (.string x.key), .p (.string k), .p (.bool (Op.bytesLess (x.key).toList (k).toList))] [(1, .string k), (5, .int .i64 i), (6, a4), (18, .bool (Op.bytesLess (x.key).toList (k).toList))] ⟨ld1b (hbn.ext st.ext List.not_mem_nil) nagg_9 rfl, trivial⟩ ?_
   refine RP_nil <| n_then <| W_cond rfl (fun c18_5 => ?_) (fun c18_5 => ?_)
   ·
    refine W_seq <| W_region <| RP_sg 5 [.p (.int .i64 i), .p a4, .p a4, .p (.pointer (some ⟨gn, 12, none⟩)), .l 177 (.pointer (some ⟨gn, 12, none⟩)) (.pointer pl)] [(1, .string k), (6, a4), (19, .int .i64 i), (23, .pointer pl)] ⟨ld1b (hbn.ext st.ext List.not_mem_nil) nagg_177 rfl, trivial⟩ ?_
    refine RP_e rfl (ef_call (k := 116) (args := [.pointer pl]) (many_cr hl) body_116 (by kernel_rfl)) ?_
    rintro _ _ ⟨_, rfl, rfl, rfl⟩
    refine RP_sg 3 [.p (.int .i64 (IntKind.i64.wrap (((l.size : Nat) : Int) + 1))), .p (.int .i64 (IntKind.i64.wrap (i + (IntKind.i64.wrap (((l.size : Nat) : Int) + 1))))), .p (.int .i64 (IntKind.i64.wrap (i + (IntKind.i64.wrap (((l.size : Nat) : Int) + 1)))))] [(1, .string k), (5, .int .i64 (IntKind.i64.wrap (i + (IntKind.i64.wrap (((l.size : Nat) : Int) + 1))))), (6, a4)] trivial ?_
    refine RP_nil <| n_then <| W_region <| RP_sg 5 [.p a4, .p a4, .p (.pointer (some ⟨gn, 13, none⟩)), .l 177 (.pointer (some ⟨gn, 13, none⟩)) (.pointer pr), .p (.pointer pr)] [(1, .string k), (5, .int .i64 (IntKind.i64.wrap (i + (IntKind.i64.wrap (((l.size : Nat) : Int) + 1))))), (6, .pointer pr)] ⟨ld1b (hbn.ext st.ext List.not_mem_nil) nagg_177 rfl, trivial⟩ ?_
    refine RP_nil <| n_block ?_
    simp only [T.size] at hs3
    exact ⟨_, by simp only [T.size]; omega, pr, r, IntKind.i64.wrap (i + (IntKind.i64.wrap (((l.size : Nat) : Int) + 1))), a + l.size + 1, rfl, rfl, rfl, hr, by rw [wrap_small (x := (l.size : Int) + 1) (by omega) (by omega), wrap_small (by omega) (by omega)]; omega, by rw [← hr2]; simp only [T.rank, klt]; rw [c18_5]; simp only [cond_true]; omega, by omega⟩
   ·
    refine W_region <| RP_sg 5 [.p a4, .p a4, .p (.pointer (some ⟨gn, 12, none⟩)), .l 177 (.pointer (some ⟨gn, 12, none⟩)) (.pointer pl), .p (.pointer pl)] [(1, .string k), (5, .int .i64 i), (6, .pointer pl)] ⟨ld1b (hbn.ext st.ext List.not_mem_nil) nagg_177 rfl, trivial⟩ ?_
    refine RP_nil <| n_block ?_
    exact ⟨_, by simp only [T.size]; omega, pl, l, i, a, rfl, rfl, rfl, hl, hi, by rw [← hr2]; simp only [T.rank, klt]; rw [c18_5]; rfl, by simp only [T.size] at hs3; omega⟩
theorem get_cr {w : World} {bt bm : Nat} {j : Int} {p : Option Addr} {t : T} (k : ByteArray) (hT : Tr w bt bm j p) (ht : IsT w p t) :
    CR Tryd.prog 65 [.pointer (some ⟨bt, 0, none⟩), .string k] w fun v w' => v = .tuple #[entV (t.get k), .bool (t.get k).isSome] ∧ Ext [] w w' := by
  have st := St.init w []
  have htb := hT.t
  refine CR_enter Tryd.func65 rfl Tryd.ntmps65 rfl ?_
  refine W_seq <| W_region <| RP_e rfl (ef_alloc st zero_61 rfl) ?_
  rintro _ w1 ⟨g4, rfl, hg4, hg4', st2, hx3⟩
  replace st2 : St [] w w1 [(g4, 61, [.string (⟨#[]⟩ : ByteArray), .int .i64 0, .int .i64 0, .string (⟨#[]⟩ : ByteArray), .bool false])] := st2
  let a5 : Value := .pointer (some ⟨bt, 0, none⟩)
  let a6 : Value := .pointer (some ⟨g4, 0, none⟩)
  refine RP_sg 1 [.p (.bool false)] [(0, a5), (1, .string k), (4, a6)] trivial ?_
  refine RP_nil <| n_then <| W_scope <| W_seq <| W_region <| RP_sg 5 [.p a5, .p a5, .p (.pointer (some ⟨bt, 4, none⟩)), .l 177 (.pointer (some ⟨bt, 4, none⟩)) (.pointer p), .p (.pointer p)] [(1, .string k), (4, a6), (6, .pointer p)] ⟨ld1b (htb.ext st2.ext List.not_mem_nil) nagg_177 rfl, trivial⟩ ?_
  refine RP_nil <| n_then <| W_seq <| W_label <| n_then <| W_seq <| W_block <| W_loop (fun k_ m_ w_ => ∃ (p' : Option Addr) (t' : T), t'.size = k_ ∧ m_ = [(1, .string k), (4, a6), (6, .pointer p')] ∧ w1 = w_ ∧ IsT w p' t' ∧ t'.get k = t.get k) ⟨p, t, rfl, rfl, rfl, ht, rfl⟩ ?_
  rintro _ _ _ ⟨p', t', rfl, rfl, rfl, ht', hg⟩
  rcases ht'.cases with ⟨rfl, rfl⟩ | ⟨x, l, r, gn, pl, pr, rfl, rfl, hbn, hl, hr⟩
  ·
   refine W_seq <| W_seq <| W_region <| RP_sg 2 [.p (.pointer none), .p (.bool false)] [(1, .string k), (4, a6), (6, .pointer none), (13, .bool false)] trivial ?_
   refine RP_nil <| n_then <| W_false rfl ?_
   refine W_exit ?_
   refine e_then <| e_loop <| e_here ?_
   refine n_then <| W_seq <| W_seq <| W_region <| RP_sg 2 [.p (.pointer none), .p (.bool true)] [(4, a6), (6, .pointer none), (37, .bool true)] trivial ?_
   refine RP_nil <| n_then <| W_true rfl ?_
   refine W_seq <| W_region <| RP_e rfl (ef_alloc st2 zero_61 rfl) ?_
   rintro _ w9 ⟨g12, rfl, hg12, hg12', st10, hx11⟩
   replace st10 : St [] w w9 [(g12, 61, [.string (⟨#[]⟩ : ByteArray), .int .i64 0, .int .i64 0, .string (⟨#[]⟩ : ByteArray), .bool false]), (g4, 61, [.string (⟨#[]⟩ : ByteArray), .int .i64 0, .int .i64 0, .string (⟨#[]⟩ : ByteArray), .bool false])] := st10
   let a13 : Value := .pointer (some ⟨g12, 0, none⟩)
   refine RP_pk [(4, a6), (7, a13)] ?_
   refine RP_nil <| n_then <| W_seq <| W_region ?_
   let a14 : Value := .agg #[.string (⟨#[]⟩ : ByteArray), .int .i64 0, .int .i64 0, .string (⟨#[]⟩ : ByteArray), .bool false]
   refine RP_sg 1 [.l 61 a13 a14] [(4, a6), (38, a14)] ⟨ldN st10 agg_61 0 rfl rfl rfl, trivial⟩ ?_
   refine RP_e rfl (ef_store st10 rfl rfl rfl size_61 1 rfl rfl rfl rfl (.inr hg4)) ?_
   rintro _ w15 ⟨rfl, st16, hx17⟩
   replace st16 : St [] w w15 [(g12, 61, [.string (⟨#[]⟩ : ByteArray), .int .i64 0, .int .i64 0, .string (⟨#[]⟩ : ByteArray), .bool false]), (g4, 61, [.string (⟨#[]⟩ : ByteArray), .int .i64 0, .int .i64 0, .string (⟨#[]⟩ : ByteArray), .bool false])] := st16
   refine RP_sg 1 [.p (.bool false)] [(4, a6), (5, .bool false)] trivial ?_
   refine RP_nil <| n_then <| W_ret <| r_then <| r_scope ?_
   refine ret_of (P := Tryd.prog) (fn := Tryd.f65) (m := [(4, .pointer (some ⟨g4, 0, none⟩)), (5, .bool false)]) (w := w15) (res2 rfl (rv_cell rfl (by simpa [Instr.loadAt, Instr.sureAddr] using (ldN st16 agg_61 1 rfl rfl rfl))) (rv_tmp rfl)) ?_
   exact ⟨by rw [← hg]; rfl, st16.ext⟩
  ·
   refine W_seq <| W_seq <| W_region ?_
   let a18 : Value := .pointer (some ⟨gn, 0, none⟩)
   refine RP_sg 2 [.p a18, .p (.bool true)] [(1, .string k), (4, a6), (6, a18), (13, .bool true)] trivial ?_
   refine RP_nil <| n_then <| W_true rfl ?_
   refine W_skip <| n_then <| W_block <| W_block <| W_seq <| W_region <| RP_sg 7 [.p (.string k), .p a18, .p a18, .p a18, .l 9 a18 (.string x.key), .p (.bool (Op.bytesLess (k).toList (x.key).toList)), .p (.bool (Op.bytesLess (k).toList (x.key).toList))] [(1, .string k), (4, a6), (6, a18), (14, .bool (Op.bytesLess (k).toList (x.key).toList))] ⟨ld1b (hbn.ext st2.ext List.not_mem_nil) nagg_9 rfl, trivial⟩ ?_
   refine RP_nil <| n_then <| W_cond rfl (fun c14_19 => ?_) (fun c14_19 => ?_)
   ·
    refine W_region <| RP_sg 5 [.p a18, .p a18, .p (.pointer (some ⟨gn, 12, none⟩)), .l 177 (.pointer (some ⟨gn, 12, none⟩)) (.pointer pl), .p (.pointer pl)] [(1, .string k), (4, a6), (6, .pointer pl)] ⟨ld1b (hbn.ext st2.ext List.not_mem_nil) nagg_177 rfl, trivial⟩ ?_
    refine RP_nil <| n_block <| n_block ?_
    exact ⟨_, by simp only [T.size]; omega, pl, l, rfl, rfl, rfl, hl, by rw [← hg]; simp only [T.get, klt]; rw [c14_19]; rfl⟩
   ·
    refine W_seq <| W_region <| RP_sg 7 [.p (.string k), .p a18, .p a18, .p a18, .l 9 a18 (.string x.key), .p (.bool (!(Op.bytesLess (k).toList (x.key).toList || (k).toList == (x.key).toList))), .p (.bool (!(Op.bytesLess (k).toList (x.key).toList || (k).toList == (x.key).toList)))] [(1, .string k), (4, a6), (6, a18), (25, .bool (!(Op.bytesLess (k).toList (x.key).toList || (k).toList == (x.key).toList)))] ⟨ld1b (hbn.ext st2.ext List.not_mem_nil) nagg_9 rfl, trivial⟩ ?_
    refine RP_nil <| n_then <| W_cond rfl (fun c25_20 => ?_) (fun c25_20 => ?_)
    ·
     refine W_region <| RP_sg 5 [.p a18, .p a18, .p (.pointer (some ⟨gn, 13, none⟩)), .l 177 (.pointer (some ⟨gn, 13, none⟩)) (.pointer pr), .p (.pointer pr)] [(1, .string k), (4, a6), (6, .pointer pr)] ⟨ld1b (hbn.ext st2.ext List.not_mem_nil) nagg_177 rfl, trivial⟩ ?_
     refine RP_nil <| n_block <| n_block ?_
     exact ⟨_, by simp only [T.size]; omega, pr, r, rfl, rfl, rfl, hr, by rw [← hg]; simp only [T.get, klt, kgt]; rw [c25_20, c14_19]; rfl⟩
    ·
     refine W_exit ?_
     refine e_on rfl <| e_on rfl <| e_loop <| e_here ?_
     refine n_then <| W_seq <| W_seq <| W_region <| RP_sg 2 [.p a18, .p (.bool false)] [(4, a6), (6, a18), (37, .bool false)] trivial ?_
     refine RP_nil <| n_then <| W_false rfl ?_
     refine W_skip <| n_then <| W_seq <| W_region ?_
     let a21 : Value := .agg #[.string x.key, .int .i64 x.c, .int .i64 x.n, .string x.val, .bool x.dead]
     refine RP_sg 4 [.p a18, .p a18, .p (.pointer (some ⟨gn, 1, none⟩)), .l 61 (.pointer (some ⟨gn, 1, none⟩)) a21] [(4, a6), (42, a21)] ⟨ldNb (hbn.ext st2.ext List.not_mem_nil) agg_61 rfl rfl, trivial⟩ ?_
     refine RP_e rfl (ef_store st2 rfl rfl rfl size_61 0 rfl rfl rfl rfl (.inr hg4)) ?_
     rintro _ w22 ⟨rfl, st23, hx24⟩
     replace st23 : St [] w w22 [(g4, 61, [.string x.key, .int .i64 x.c, .int .i64 x.n, .string x.val, .bool x.dead])] := st23
     refine RP_sg 1 [.p (.bool true)] [(4, a6), (5, .bool true)] trivial ?_
     refine RP_nil <| n_then <| W_ret <| r_scope ?_
     have he : T.get k (T.node x l r) = some x := by simp only [T.get, klt, kgt]; rw [c25_20, c14_19]; rfl
     refine ret_of (P := Tryd.prog) (fn := Tryd.f65) (m := [(4, .pointer (some ⟨g4, 0, none⟩)), (5, .bool true)]) (w := w22) (res2 rfl (rv_cell rfl (by simpa [Instr.loadAt, Instr.sureAddr] using (ldN st23 agg_61 0 rfl rfl rfl))) (rv_tmp rfl)) ?_
     exact ⟨by rw [← hg, he]; rfl, st23.ext⟩
theorem NoNode.two {w : World} {a b : Nat} {s t : TypeId} {cs ds : Array Value} (h : Blk w a s cs) (k : Blk w b t ds) (hs : s ≠ 181) (ht : t ≠ 181) : NoNode w [a, b] := fun g cs' hg hb => by
  rcases List.mem_cons.1 hg with rfl | hg
  · exact Blk.ne_ h hb hs rfl
  · simp only [List.mem_singleton] at hg; subst hg; exact Blk.ne_ k hb ht rfl
theorem treePut_cr {w : World} {bt bm : Nat} {j : Int} {p : Option Addr} {t : T} (e : Ent) (hT : Tr w bt bm j p) (ht : IsT w p t) (hs : t.size ≤ 10000) :
    CR Tryd.prog 102 [.pointer (some ⟨bt, 0, none⟩), .string e.key, e.v, e.tal.v] w fun v w' => v = .tuple #[entV (t.get e.key), .bool (t.get e.key).isSome] ∧
      ∃ p', Tr w' bt bm (addj j (T.putJ e t)) p' ∧ IsT w' p' (T.put e t) ∧ Ext [bt, bm] w w' := by
  have hno := NoNode.two hT.t hT.m (by decide) (by decide)
  have st := ((St.init w [bt, bm]).add hT.m (by simp)).add hT.t (by simpa using hT.ne)
  have htb := hT.t
  refine CR_enter Tryd.func102 rfl Tryd.ntmps102 rfl ?_
  refine W_seq <| W_region <| RP_e rfl (ef_box st rfl rfl) ?_
  rintro _ w1 ⟨g4, rfl, hg4, hg4', st2, hx3⟩
  replace st2 : St [bt, bm] w w1 [(g4, 61, [.string e.key, .int .i64 e.c, .int .i64 e.n, .string e.val, .bool e.dead]), (bt, 179, [.int .i64 0, .int .u64 0, .int .u64 0, .func (.func 101) #[.pointer (some ⟨bm, 0, none⟩)] #[], .pointer p]), (bm, 205, [.int .i64 j])] := st2
  refine RP_e rfl (ef_box st2 rfl rfl) ?_
  rintro _ w5 ⟨g8, rfl, hg8, hg8', st6, hx7⟩
  replace st6 : St [bt, bm] w w5 [(g8, 32, [.int .i64 e.tal.k, .int .u64 e.tal.a, .int .u64 e.tal.b]), (g4, 61, [.string e.key, .int .i64 e.c, .int .i64 e.n, .string e.val, .bool e.dead]), (bt, 179, [.int .i64 0, .int .u64 0, .int .u64 0, .func (.func 101) #[.pointer (some ⟨bm, 0, none⟩)] #[], .pointer p]), (bm, 205, [.int .i64 j])] := st6
  refine RP_e rfl (ef_alloc st6 zero_61 rfl) ?_
  rintro _ w9 ⟨g12, rfl, hg12, hg12', st10, hx11⟩
  replace st10 : St [bt, bm] w w9 [(g12, 61, [.string (⟨#[]⟩ : ByteArray), .int .i64 0, .int .i64 0, .string (⟨#[]⟩ : ByteArray), .bool false]), (g8, 32, [.int .i64 e.tal.k, .int .u64 e.tal.a, .int .u64 e.tal.b]), (g4, 61, [.string e.key, .int .i64 e.c, .int .i64 e.n, .string e.val, .bool e.dead]), (bt, 179, [.int .i64 0, .int .u64 0, .int .u64 0, .func (.func 101) #[.pointer (some ⟨bm, 0, none⟩)] #[], .pointer p]), (bm, 205, [.int .i64 j])] := st10
  let a13 : Value := .pointer (some ⟨bt, 0, none⟩)
  let a14 : Value := .pointer (some ⟨g4, 0, none⟩)
  let a15 : Value := .pointer (some ⟨g8, 0, none⟩)
  let a16 : Value := .pointer (some ⟨g12, 0, none⟩)
  refine RP_sg 1 [.p (.bool false)] [(0, a13), (1, .string e.key), (6, a14), (7, a15), (8, a16)] trivial ?_
  refine RP_nil <| n_then <| W_seq <| W_region <| RP_sg 2 [.p a13, .p (.string e.key)] [(0, a13), (1, .string e.key), (6, a14), (7, a15), (8, a16), (13, a13), (14, .string e.key)] trivial ?_
  refine RP_e rfl (ef_call (k := 65) (args := [a13, .string e.key]) (get_cr e.key ⟨st10.get 3 rfl, st10.get 4 rfl⟩ (ht.to st10.ext hno)) body_65 (by kernel_rfl)) ?_
  rintro _ w17 ⟨_, rfl, rfl, hx19⟩
  have st18 := st10.call0 hx19
  generalize ho : t.get e.key = o at *
  have hov : ∃ a b c d f, entV o = .agg #[.string a, .int .i64 b, .int .i64 c, .string d, .bool f] := by cases o with | none => exact ⟨_, _, _, _, _, rfl⟩ | some x => exact ⟨_, _, _, _, _, rfl⟩
  obtain ⟨ea, eb, ec, ed, ef, hov⟩ := hov
  rw [hov]
  let a20 : Value := .agg #[.string ea, .int .i64 eb, .int .i64 ec, .string ed, .bool ef]
  refine RP_sg 3 [.p (.tuple #[a20, .bool o.isSome]), .p a20, .p (.bool o.isSome)] [(0, a13), (1, .string e.key), (6, a14), (7, a15), (8, a16), (16, a20), (17, .bool o.isSome)] trivial ?_
  refine RP_e rfl (ef_alloc st18 zero_61 rfl) ?_
  rintro _ w21 ⟨g24, rfl, hg24, hg24', st22, hx23⟩
  replace st22 : St [bt, bm] w w21 [(g24, 61, [.string (⟨#[]⟩ : ByteArray), .int .i64 0, .int .i64 0, .string (⟨#[]⟩ : ByteArray), .bool false]), (g12, 61, [.string (⟨#[]⟩ : ByteArray), .int .i64 0, .int .i64 0, .string (⟨#[]⟩ : ByteArray), .bool false]), (g8, 32, [.int .i64 e.tal.k, .int .u64 e.tal.a, .int .u64 e.tal.b]), (g4, 61, [.string e.key, .int .i64 e.c, .int .i64 e.n, .string e.val, .bool e.dead]), (bt, 179, [.int .i64 0, .int .u64 0, .int .u64 0, .func (.func 101) #[.pointer (some ⟨bm, 0, none⟩)] #[], .pointer p]), (bm, 205, [.int .i64 j])] := st22
  refine RP_e rfl (ef_store st22 rfl rfl rfl size_61 0 rfl rfl rfl rfl (.inr hg24)) ?_
  rintro _ w25 ⟨rfl, st26, hx27⟩
  replace st26 : St [bt, bm] w w25 [(g24, 61, [.string ea, .int .i64 eb, .int .i64 ec, .string ed, .bool ef]), (g12, 61, [.string (⟨#[]⟩ : ByteArray), .int .i64 0, .int .i64 0, .string (⟨#[]⟩ : ByteArray), .bool false]), (g8, 32, [.int .i64 e.tal.k, .int .u64 e.tal.a, .int .u64 e.tal.b]), (g4, 61, [.string e.key, .int .i64 e.c, .int .i64 e.n, .string e.val, .bool e.dead]), (bt, 179, [.int .i64 0, .int .u64 0, .int .u64 0, .func (.func 101) #[.pointer (some ⟨bm, 0, none⟩)] #[], .pointer p]), (bm, 205, [.int .i64 j])] := st26
  let a28 : Value := .pointer (some ⟨g24, 0, none⟩)
  refine RP_sg 1 [.p (.bool o.isSome)] [(0, a13), (1, .string e.key), (6, a14), (7, a15), (8, a16), (10, a28), (11, .bool o.isSome)] trivial ?_
  refine RP_nil <| n_then <| W_seq <| W_regionS ⟨(fun w' => Blk w' g8 32 [.int .i64 e.tal.k, .int .u64 e.tal.a, .int .u64 e.tal.b].toArray ∧ Blk w' g4 61 [.string e.key, .int .i64 e.c, .int .i64 e.n, .string e.val, .bool e.dead].toArray ∧ Blk w' bt 179 [.int .i64 0, .int .u64 0, .int .u64 0, .func (.func 101) #[.pointer (some ⟨bm, 0, none⟩)] #[], .pointer p].toArray), (fun _ => True)⟩ (.cons 1 0 (.cons 1 1 (.cons 1 2 (.cons 1 3 (.cons 1 4 (.cons 1 5 (.cons 1 6 (.cons 1 7 (.cons 1 8 (.cons 1 9 (.cons 2 10 (.cons 2 11 (.cons 0 12 (.cons 0 13 (.cons 3 14 .nil))))))))))))))) 15 (by kernel_rfl) (by kernel_rfl) ?_
  have st29 := st26.drew
  let a30 : Value := .agg #[.string e.key, .string e.key, .int .i64 e.c, .int .i64 e.n, .string e.val, .bool e.dead, .int .i64 e.tal.k, .int .u64 e.tal.a, .int .u64 e.tal.b, .int .i64 0, .int .u64 0, .int .u64 0, .pointer none, .pointer none, .int .i64 0, .int .i64 0]
  refine RS_sg 10 [.p a13, .p a13, .p a13, .p a13, .p (.pointer (some ⟨bt, 4, none⟩)), .l 177 (.pointer (some ⟨bt, 4, none⟩)) (.pointer p), .p (.string e.key), .l 61 a14 (.agg #[.string e.key, .int .i64 e.c, .int .i64 e.n, .string e.val, .bool e.dead]), .l 32 a15 (.agg #[.int .i64 e.tal.k, .int .u64 e.tal.a, .int .u64 e.tal.b]), .p a30] [(8, a16), (10, a28), (11, .bool o.isSome), (18, a13), (19, a13), (23, .pointer p), (27, a30)] (⟨st29.get 2 rfl, st29.get 3 rfl, st29.get 4 rfl⟩) (fun _ hS => ⟨ld1b (hS.2.2) nagg_177 rfl, ldNb (hS.2.1) agg_61 rfl rfl, ldNb (hS.1) agg_32 rfl rfl, trivial⟩) ?_
  refine RS_e rfl rfl (ef_box st29 rfl rfl) ?_
  rintro _ w31 ⟨gx, rfl, hgx, hgx', st32, hx33⟩
  replace st32 : St [bt, bm] w w31 [(gx, 181, [.string e.key, .string e.key, .int .i64 e.c, .int .i64 e.n, .string e.val, .bool e.dead, .int .i64 e.tal.k, .int .u64 e.tal.a, .int .u64 e.tal.b, .int .i64 0, .int .u64 0, .int .u64 0, .pointer none, .pointer none, .int .i64 0, .int .i64 0]), (g24, 61, [.string ea, .int .i64 eb, .int .i64 ec, .string ed, .bool ef]), (g12, 61, [.string (⟨#[]⟩ : ByteArray), .int .i64 0, .int .i64 0, .string (⟨#[]⟩ : ByteArray), .bool false]), (g8, 32, [.int .i64 e.tal.k, .int .u64 e.tal.a, .int .u64 e.tal.b]), (g4, 61, [.string e.key, .int .i64 e.c, .int .i64 e.n, .string e.val, .bool e.dead]), (bt, 179, [.int .i64 0, .int .u64 0, .int .u64 0, .func (.func 101) #[.pointer (some ⟨bm, 0, none⟩)] #[], .pointer p]), (bm, 205, [.int .i64 j])] := st32
  refine ⟨⟨st32.get 3 rfl, st32.get 4 rfl, st32.get 5 rfl⟩, ?_⟩
  refine RS_e rfl rfl (ef_call (k := 133) (args := [a13, .pointer p, .pointer (some ⟨gx, 0, none⟩)]) (put_cr t ⟨st32.get 5 rfl, st32.get 6 rfl⟩ (s := ⟨0, 0, 0⟩) (st32.get 0 rfl) (ht.to st32.ext hno) hs) body_133 (by kernel_rfl)) ?_
  rintro _ w34 ⟨_, rfl, gp, rfl, hi1, ⟨-, hbj⟩, hx36⟩
  have st35 := st32.turned 6 rfl (.inl (by simp)) hbj hx36
  have st37 : St [bt, bm] w w34 [(gx, 181, [.string e.key, .string e.key, .int .i64 e.c, .int .i64 e.n, .string e.val, .bool e.dead, .int .i64 e.tal.k, .int .u64 e.tal.a, .int .u64 e.tal.b, .int .i64 0, .int .u64 0, .int .u64 0, .pointer none, .pointer none, .int .i64 0, .int .i64 0]), (g24, 61, [.string ea, .int .i64 eb, .int .i64 ec, .string ed, .bool ef]), (g12, 61, [.string (⟨#[]⟩ : ByteArray), .int .i64 0, .int .i64 0, .string (⟨#[]⟩ : ByteArray), .bool false]), (g8, 32, [.int .i64 e.tal.k, .int .u64 e.tal.a, .int .u64 e.tal.b]), (g4, 61, [.string e.key, .int .i64 e.c, .int .i64 e.n, .string e.val, .bool e.dead]), (bt, 179, [.int .i64 0, .int .u64 0, .int .u64 0, .func (.func 101) #[.pointer (some ⟨bm, 0, none⟩)] #[], .pointer p]), (bm, 205, [.int .i64 (addj j (T.putJ e t))])] := st35
  refine ⟨⟨st37.get 3 rfl, st37.get 4 rfl, st37.get 5 rfl⟩, ?_⟩
  let a38 : Value := .pointer (some ⟨gp, 0, none⟩)
  let a39 : Value := .pointer (some ⟨bt, 4, none⟩)
  refine RS_sgP 2 [.p a13, .p a39] [(8, a16), (10, a28), (11, .bool o.isSome), (29, a38), (31, a39)] (fun _ => trivial) ?_
  refine RS_f rfl rfl (ef_store st37 rfl rfl rfl size_177 5 rfl rfl rfl rfl (.inl (by simp))) ?_
  rintro _ w40 ⟨rfl, st41, hx42⟩
  replace st41 : St [bt, bm] w w40 [(gx, 181, [.string e.key, .string e.key, .int .i64 e.c, .int .i64 e.n, .string e.val, .bool e.dead, .int .i64 e.tal.k, .int .u64 e.tal.a, .int .u64 e.tal.b, .int .i64 0, .int .u64 0, .int .u64 0, .pointer none, .pointer none, .int .i64 0, .int .i64 0]), (g24, 61, [.string ea, .int .i64 eb, .int .i64 ec, .string ed, .bool ef]), (g12, 61, [.string (⟨#[]⟩ : ByteArray), .int .i64 0, .int .i64 0, .string (⟨#[]⟩ : ByteArray), .bool false]), (g8, 32, [.int .i64 e.tal.k, .int .u64 e.tal.a, .int .u64 e.tal.b]), (g4, 61, [.string e.key, .int .i64 e.c, .int .i64 e.n, .string e.val, .bool e.dead]), (bt, 179, [.int .i64 0, .int .u64 0, .int .u64 0, .func (.func 101) #[.pointer (some ⟨bm, 0, none⟩)] #[], .pointer (some ⟨gp, 0, none⟩)]), (bm, 205, [.int .i64 (addj j (T.putJ e t))])] := st41
  replace hi1 := hi1.to hx42 (NoNode.one (st37.get 5 rfl) (by decide))
  refine RS_pk [(8, a16), (10, a28), (11, .bool o.isSome)] ?_
  refine RS_nil <| n_then <| W_seq <| W_region <| RP_sg 2 [.l 61 a28 a20, .p (.bool o.isSome)] [(8, a16), (32, a20), (33, .bool o.isSome)] ⟨ldN st41 agg_61 1 rfl rfl rfl, trivial⟩ ?_
  refine RP_e rfl (ef_store st41 rfl rfl rfl size_61 2 rfl rfl rfl rfl (.inr hg12)) ?_
  rintro _ w43 ⟨rfl, st44, hx45⟩
  replace st44 : St [bt, bm] w w43 [(gx, 181, [.string e.key, .string e.key, .int .i64 e.c, .int .i64 e.n, .string e.val, .bool e.dead, .int .i64 e.tal.k, .int .u64 e.tal.a, .int .u64 e.tal.b, .int .i64 0, .int .u64 0, .int .u64 0, .pointer none, .pointer none, .int .i64 0, .int .i64 0]), (g24, 61, [.string ea, .int .i64 eb, .int .i64 ec, .string ed, .bool ef]), (g12, 61, [.string ea, .int .i64 eb, .int .i64 ec, .string ed, .bool ef]), (g8, 32, [.int .i64 e.tal.k, .int .u64 e.tal.a, .int .u64 e.tal.b]), (g4, 61, [.string e.key, .int .i64 e.c, .int .i64 e.n, .string e.val, .bool e.dead]), (bt, 179, [.int .i64 0, .int .u64 0, .int .u64 0, .func (.func 101) #[.pointer (some ⟨bm, 0, none⟩)] #[], .pointer (some ⟨gp, 0, none⟩)]), (bm, 205, [.int .i64 (addj j (T.putJ e t))])] := st44
  replace hi1 := hi1.to hx45 (NoNode.one (st41.get 2 rfl) (by decide))
  refine RP_sg 1 [.p (.bool o.isSome)] [(8, a16), (9, .bool o.isSome)] trivial ?_
  refine RP_nil <| n_then <| W_ret <| ret_of (P := Tryd.prog) (fn := Tryd.f102) (m := [(8, .pointer (some ⟨g12, 0, none⟩)), (9, .bool o.isSome)]) (w := w43) (res2 rfl (rv_cell rfl (by simpa [Instr.loadAt, Instr.sureAddr] using (ldN st44 agg_61 2 rfl rfl rfl))) (rv_tmp rfl)) ?_
  exact ⟨rfl, _, ⟨st44.get 5 rfl, st44.get 6 rfl⟩, hi1, st44.ext⟩
end Go.Proofs.YtcopemgkjbaaeaaDoor
namespace Go.Proofs.YtcopemgkjbaaeaaDoor
set_option linter.all false
open Go.RowKit
def ownB (v : Value) : List Nat := v.ownBlock.toList
structure AppT (P : Program) (t e : TypeId) (size bytes : Nat) : Prop where
  ht : P.underlying t = some (.slice e)
  ex : ∃ i z, P.info? e = some i ∧ i.zero = some z ∧ i.size = size ∧ i.bytes = bytes ∧ z.cells.size = size ∧ 0 < size
section
variable {P : Program} {n : Nat} {m : SM} {w w0 w' : World} {X : List Nat} {M : List (Nat × TypeId × List Value)}
variable {dst : Option Nat} {ty : TypeId} {pos : String} {af : Array Edge} {gd : Option (Nat × Bool)}
theorem Ext.of_grown {v : Value} (h : w.grownBy w' v.ownBlock) : Ext (ownB v) w w' :=
  ⟨h.os, h.tape, h.output, h.size, fun k hk hx => h.block k hk fun e => hx (by simp [ownB, ← e])⟩
theorem ownsRow.lt {base : Nat} {e : TypeId} {size : Nat} {v : Value} {k : Nat} {xs : List Value} (h : w.ownsRow base e size v k xs) : ∀ g ∈ ownB v, g < w.heap.size ∧ base ≤ g := by
  intro g hg
  rcases h.2 with ⟨rfl, _⟩ | ⟨g', cap, cur, rfl, hb, hh, _⟩
  · simp [ownB, Value.ownBlock] at hg
  · simp [ownB, Value.ownBlock] at hg
    subst hg
    exact ⟨(Array.getElem?_eq_some_iff.1 hh).1, hb⟩
theorem ownsRow.ext {base : Nat} {e : TypeId} {size : Nat} {v : Value} {k : Nat} {xs : List Value} (h : w.ownsRow base e size v k xs) (hx : Ext X w w') (hX : ∀ g ∈ ownB v, g ∉ X) : w'.ownsRow base e size v k xs := by
  refine ⟨h.1, ?_⟩
  rcases h.2 with hn | ⟨g, cap, cur, rfl, hb, hh, rest⟩
  · exact .inl hn
  · refine .inr ⟨g, cap, cur, rfl, hb, ?_, rest⟩
    rw [hx.block g (Array.getElem?_eq_some_iff.1 hh).1 (hX g (by simp [ownB, Value.ownBlock]))]
    exact hh
theorem ownsRow.not_blk {base : Nat} {e : TypeId} {size : Nat} {v : Value} {k : Nat} {xs : List Value} (h : w.ownsRow base e size v k xs) {g : Nat} {t : TypeId} {cs : Array Value} (hb : Blk w g t cs) (ht : e ≠ t) : g ∉ ownB v := by
  intro hg
  rcases h.2 with ⟨rfl, _⟩ | ⟨g', cap, cur, rfl, _, hh, _⟩
  · simp [ownB, Value.ownBlock] at hg
  · simp [ownB, Value.ownBlock] at hg
    subst hg
    unfold Blk at hb
    rw [hh] at hb
    injection hb with hb
    injection hb with _ h2
    exact ht h2
theorem ef_append {x y : Operand} {t e : TypeId} {size bytes : Nat} (hT : AppT P t e size bytes) {base k c g : Nat} {v : Value} {j : Nat} {xs ns : List Value} {te : TypeId} (hown : w.ownsRow base e size v k xs) (hx : opv m x = some v)
    (hy : opv m y = some (.slice (some ⟨g, 0, none⟩) j c)) (hnb : Blk w g te ns.toArray) (hl : ns.length = j * size) (h1 : ns.all (·.oneCell) = true) (hn : k + j ≤ maxLen) (hbytes : (k + j) * bytes ≤ 140737488355328) (hbase : base ≤ w.heap.size) :
    Ef P m ⟨dst, .call ⟨.builtin .append, #[x, y], #[t, t]⟩, ty, pos, af, gd⟩ w fun r W => ∃ v', r = some v' ∧ W.ownsRow base e size v' (k + j) (xs ++ ns) ∧ Ext (ownB v) w W ∧ (∀ q ∈ ownB v', q ∈ ownB v ∨ w.heap.size ≤ q) := fun ρ hρ => by
  obtain ⟨i, z, hi, hz, hs, hb, hzs, hsz⟩ := hT.ex
  have hc : ∀ (q : Nat) (u : Value), ns[q]? = some u → w.cell? ((⟨g, 0, none⟩ : Addr).add q) = some u := fun q u hu => by
    have e : ((⟨g, 0, none⟩ : Addr).add q) = ⟨g, q, none⟩ := by unfold Addr.add; split <;> simp_all
    rw [e, hnb.cell q]; simpa using hu
  obtain ⟨v', w', hr, h2, h3, h4, h5⟩ := run_append_own_at (P := P) w base t ty e i z size bytes hT.ht hi hz hs hb hzs hsz v k xs hown ⟨g, 0, none⟩ j c ns hl hc (fun u hu => by
    have := List.all_eq_true.1 h1 u hu
    cases u <;> simp_all [Value.oneCell, Value.oneCell']) hn hbytes hbase
  refine .inl ⟨v', w', ?_, v', rfl, h2, Ext.of_grown h3, fun q hq => ?_⟩
  · simp only [execOp, resolve, invoke, builtin, Sem.run_bind, Sem.run_pure, Result.andThen_ok, List.map_toArray, List.map_cons, List.map_nil, hρ.get hx, hρ.get hy, hr]
  · rcases h5 with h5 | h5
    · exact .inl (by simpa [ownB, h5] using hq)
    · simp [ownB, h5] at hq
      exact .inr (by omega)
theorem ef_new {op : Op} {t : TypeId} {cs : List Value} (vf : Nat → Value) (h : St X w0 w M) (hk : allKnown m op.operands.toList = true) (hs : notSelect op = true)
    (hrun : ∀ w, (execOp (rho m) ⟨dst, op, ty, pos, af, gd⟩).run P w = .ok (.value (vf w.heap.size)) (w.alloc (.cells cs.toArray t))) :
    Ef P m ⟨dst, op, ty, pos, af, gd⟩ w fun r W => ∃ g, r = some (vf g) ∧ w0.heap.size ≤ g ∧ w.heap.size ≤ g ∧ St X w0 W ((g, t, cs) :: M) ∧ Ext [] w W := fun ρ hρ => by
  refine .inl ⟨_, _, ?_, w.heap.size, rfl, h.ext.size, Nat.le_refl _, h.push t cs, (Ext.refl [] w).alloc _⟩
  rw [exec_rho hρ hk hs]
  exact hrun w
theorem St.sub0 (h : St X w0 w M) : St X w0 w [] := h.sub [] (List.nil_sublist _)
structure Acc (w0 : World) (X : List Nat) (w : World) (e : TypeId) (size : Nat) (v : Value) (k : Nat) (xs : List Value) : Prop where
  own : w.ownsRow 0 e size v k xs
  inn : ∀ q ∈ ownB v, q ∈ X ∨ w0.heap.size ≤ q
theorem Acc.ext {Y : List Nat} {e : TypeId} {size k : Nat} {v : Value} {xs : List Value} (h : Acc w0 X w e size v k xs) (hx : Ext Y w w') (hY : ∀ g ∈ ownB v, g ∉ Y) : Acc w0 X w' e size v k xs := ⟨ownsRow.ext h.own hx hY, h.inn⟩
theorem Acc.drew {e : TypeId} {size k : Nat} {v : Value} {xs : List Value} (h : Acc w0 X w e size v k xs) : Acc w0 X w.drew e size v k xs := h.ext (Ext.refl [] w).drew (by simp)
theorem Acc.call {e : TypeId} {size k k' : Nat} {v u : Value} {xs xs' : List Value} (h : Acc w0 X w e size v k xs) (st : St X w0 w M) (hb : Acc w (ownB v) w' e size u k' xs') : Acc w0 X w' e size u k' xs' :=
  ⟨hb.own, fun q hq => (hb.inn q hq).elim (h.inn q) fun h => .inr (Nat.le_trans st.ext.size h)⟩
theorem Acc.nil (w0 : World) (X : List Nat) (w : World) (e : TypeId) (size : Nat) : Acc w0 X w e size (.slice none 0 0) 0 [] := ⟨World.ownsRow_nil w 0 e size, by simp [ownB, Value.ownBlock]⟩
theorem Acc.not_blk {e : TypeId} {size k : Nat} {v : Value} {xs : List Value} (h : Acc w0 X w e size v k xs) {g : Nat} {t : TypeId} {cs : Array Value} (hb : Blk w g t cs) (ht : e ≠ t) : ∀ q ∈ ownB v, q ∉ [g] := by
  intro q hq hm
  simp only [List.mem_singleton] at hm; subst hm
  exact ownsRow.not_blk h.own hb ht hq
theorem ef_app {x y : Operand} {t e : TypeId} {size bytes : Nat} (hT : AppT P t e size bytes) {k c g : Nat} {v : Value} {j : Nat} {xs ns : List Value} {te : TypeId} (st : St X w0 w M) (ha : Acc w0 X w e size v k xs) (hx : opv m x = some v)
    (hy : opv m y = some (.slice (some ⟨g, 0, none⟩) j c)) (i : Nat) (hi : M[i]? = some (g, te, ns)) (hl : ns.length = j * size) (h1 : ns.all (·.oneCell) = true) (hn : k + j ≤ maxLen) (hbytes : (k + j) * bytes ≤ 140737488355328) :
    Ef P m ⟨dst, .call ⟨.builtin .append, #[x, y], #[t, t]⟩, ty, pos, af, gd⟩ w fun r W => ∃ v', r = some v' ∧ Acc w0 X W e size v' (k + j) (xs ++ ns) ∧ St X w0 W [] ∧ Ext (ownB v) w W := fun ρ hρ => by
  rcases ef_append (dst := dst) (ty := ty) (pos := pos) (af := af) (gd := gd) hT ha.own hx hy (st.get i hi) hl h1 hn hbytes (Nat.zero_le _) ρ hρ with ⟨u, w', hr, v', e, h2, h3, h4⟩ | ⟨w', hr, v', e, _⟩ | ⟨f, args, hr, hc⟩
  · refine .inl ⟨u, w', hr, v', e, ⟨h2, fun q hq => (h4 q hq).elim (ha.inn q) fun h => .inr (Nat.le_trans st.ext.size h)⟩, st.sub0.call h3 (by simp) ha.inn, h3⟩
  · cases e
  · refine .inr (.inr ⟨f, args, hr, hc.mono ?_⟩)
    rintro e w' ⟨v, rfl, v', he, h2, h3, h4⟩
    exact ⟨v, rfl, v', he, ⟨h2, fun q hq => (h4 q hq).elim (ha.inn q) fun h => .inr (Nat.le_trans st.ext.size h)⟩, st.sub0.call h3 (by simp) ha.inn, h3⟩
def sp : Option Addr → Nat
  | some a => a.block
  | none => 0
theorem ownsRow.form' {base : Nat} {e : TypeId} {size k : Nat} {v : Value} {xs : List Value} (h : w.ownsRow base e size v k xs) : ∃ b c, v = .slice b k c := by
  rcases h.2 with ⟨rfl, rfl⟩ | ⟨g, cap, cur, rfl, _⟩
  · exact ⟨_, _, rfl⟩
  · exact ⟨_, _, rfl⟩
theorem ownsRow.some_ {base : Nat} {e : TypeId} {size k c : Nat} {b : Option Addr} {xs : List Value} (h : w.ownsRow base e size (.slice b k c) k xs) (hk : 0 < k) :
    b = some ⟨sp b, 0, none⟩ ∧ ∃ cur, w.heap[sp b]? = some (.cells cur e (0, 0)) ∧ cur.toList.take (k * size) = xs := by
  rcases h.2 with ⟨hv, rfl⟩ | ⟨g, cap, cur, hv, _, h1, _, _, _, h2⟩
  · omega
  · injection hv with hv _ _
    subst hv
    exact ⟨rfl, cur, h1, h2⟩
structure IdxT (P : Program) (t e : TypeId) (size : Nat) : Prop where
  u : P.underlying t = some (.slice e)
  s : ∀ w, (sizeOf e).run P w = .ok size w
theorem run_loadRow {g : Nat} {e : TypeId} {cur : Array Value} (hb : w.heap[g]? = some (.cells cur e (0, 0))) : ∀ (k i j : Nat) (acc : Array Value), i + j + k ≤ cur.size → (loadCellsFrom ⟨g, i, none⟩ j k acc).run P w = .ok (acc ++ ((cur.toList.drop (i + j)).take k).toArray) w := fun k i j acc h => by
  have hB : Blk w g e cur.toList.toArray := by simpa [Blk] using hb
  exact run_loadCellsFrom hB k i j acc (by simpa using h)
theorem ownsRow.load {e : TypeId} {size base k c : Nat} {b : Option Addr} {xs vs : List Value} {o q : Nat} {t : TypeId} (hA : Agg P t q) (hown : w.ownsRow base e size (.slice b k c) k xs) (hv : (xs.drop o).take q = vs) (hl : vs.length = q) (hq : 0 < q) :
    (Instr.loadAt t (.pointer (some ⟨sp b, o, none⟩))).run P w = .ok (.agg vs.toArray) w := by
  have hlen : o + q ≤ xs.length := by
    have := congrArg List.length hv
    simp only [List.length_take, List.length_drop] at this
    omega
  have hk : 0 < k := by
    have := hown.1
    rcases Nat.eq_zero_or_pos k with rfl | h
    · rw [Nat.zero_mul] at this; omega
    · exact h
  obtain ⟨_, cur, h1, h2⟩ := ownsRow.some_ hown hk
  have hcs : o + q ≤ cur.size := by
    have := congrArg List.length h2
    simp only [List.length_take, Array.length_toList] at this
    omega
  have hr := run_loadRow (P := P) h1 q o 0 #[] (by omega)
  have hd : (cur.toList.drop o).take q = vs := by
    rw [← hv, ← h2, List.drop_take, List.take_take]
    congr 1
    have := congrArg List.length h2
    simp only [List.length_take, Array.length_toList] at this
    omega
  simp only [Instr.loadAt, Instr.sureAddr, loadVar, loadCells]
  simp [hA.1 w, hA.2 w, hr, hd]
theorem ownsRow.load1 {e : TypeId} {size base k c : Nat} {b : Option Addr} {xs : List Value} {o : Nat} {t : TypeId} {v : Value} (hA : NAgg P t) (hown : w.ownsRow base e size (.slice b k c) k xs) (hv : xs[o]? = some v) :
    (Instr.loadAt t (.pointer (some ⟨sp b, o, none⟩))).run P w = .ok v w := by
  have ho : o < xs.length := (List.getElem?_eq_some_iff.1 hv).1
  have hk : 0 < k := by
    have := hown.1
    rcases Nat.eq_zero_or_pos k with rfl | h
    · rw [Nat.zero_mul] at this; omega
    · exact h
  obtain ⟨_, cur, h1, h2⟩ := ownsRow.some_ hown hk
  have hB : Blk w (sp b) e cur := h1
  have hc : w.cell? ⟨sp b, o, none⟩ = some v := by
    rw [hB.cell o, ← hv, ← h2]
    rw [List.getElem?_take]
    have := congrArg List.length h2
    simp only [List.length_take, Array.length_toList] at this
    rw [if_pos (by omega)]
    simp
  simp [Instr.loadAt, Instr.sureAddr, loadVar, hA w, load, Sem.run, hc]
end
theorem idxEnt : IdxT Tryd.prog 22 61 5 := ⟨by kernel_rfl, size_61⟩
theorem idxPart : IdxT Tryd.prog 26 34 8 := ⟨by kernel_rfl, size_34⟩
theorem appEnt : AppT Tryd.prog 22 61 5 56 := ⟨by kernel_rfl, Tryd.t61, .agg #[.string ⟨#[]⟩, .int .i64 0, .int .i64 0, .string ⟨#[]⟩, .bool false], by kernel_rfl, by kernel_rfl, rfl, rfl, rfl, by decide⟩
end Go.Proofs.YtcopemgkjbaaeaaDoor
namespace Go.Proofs.YtcopemgkjbaaeaaDoor
set_option linter.all false
open Go.RowKit
theorem wrap_in {x : Int} (h0 : -9223372036854775808 ≤ x) (h : x < 9223372036854775808) : IntKind.i64.wrap x = x := by rw [w64]; unfold wrap64; omega
def Tal.cells (t : Tal) : List Value := [.int .i64 t.k, .int .u64 t.a, .int .u64 t.b]
theorem NoNode.own {w : World} {e : TypeId} {size k base : Nat} {v : Value} {xs : List Value} (h : w.ownsRow base e size v k xs) (he : e ≠ 181) : NoNode w (ownB v) := fun _ _ hg hb => ownsRow.not_blk h hb he hg
theorem sub_w {a b : Int} (h1 : -1000000000 ≤ a) (h2 : a ≤ 1000000000) (h3 : 0 ≤ b) (h4 : b ≤ 1000000) : IntKind.i64.wrap (IntKind.i64.wrap (a - b) - 1) = a - b - 1 := by
  rw [wrap_in (x := a - b) (by omega) (by omega), wrap_in (by omega) (by omega)]
end Go.Proofs.YtcopemgkjbaaeaaDoor
namespace Go.Proofs.YtcopemgkjbaaeaaDoor
set_option linter.all false
open Go.RowKit
theorem inc_w {n : Nat} (h : n < 1000000000) : IntKind.i64.wrap (((n : Nat) : Int) + 1) = ((n + 1 : Nat) : Int) := by rw [wrap_in (by omega) (by omega)]; omega
end Go.Proofs.YtcopemgkjbaaeaaDoor
namespace Go.Proofs.YtcopemgkjbaaeaaDoor
set_option linter.all false
open Go.RowKit
section
variable {P : Program} {m : SM} {w : World} {dst : Option Nat} {ty : TypeId} {pos : String} {af : Array Edge} {gd : Option (Nat × Bool)}
theorem ev_sidx {t : TypeId} {s : ByteArray} {x ix : Operand} {i : Nat} {b : UInt8} (ht : P.underlying t = some .string) (hx : opv m x = some (.string s)) (hi : opv m ix = some (.int .i64 (i : Nat))) (hb : s.toList[i]? = some b) :
    Ev P m ⟨dst, .index t x ix, ty, pos, af, gd⟩ w (.int .u8 (b.toNat : Nat)) := fun ρ hρ => by
  rw [ByteArray.toList_eq] at hb
  have hl : i < s.size := by have := (List.getElem?_eq_some_iff.1 hb).1; simpa using this
  have he : s[i] = b := by
    have := (List.getElem?_eq_some_iff.1 hb).2
    rw [← this]; rfl
  simp only [execOp, hρ.get hx, hρ.get hi]
  have := run_index_string (P := P) w t s .i64 (i : Nat) ht
  rw [dif_pos ⟨by omega, by omega⟩] at this
  simp only [Int.toNat_natCast, he] at this
  simp [this]
theorem ev_stail {t : TypeId} {s : ByteArray} {x lo : Operand} {i : Nat} (ht : P.underlying t = some .string) (hx : opv m x = some (.string s)) (hi : opv m lo = some (.int .i64 (i : Nat))) (hl : i ≤ s.size) :
    Ev P m ⟨dst, .slice t x (some lo) none none, ty, pos, af, gd⟩ w (.string (s.extract i s.size)) := fun ρ hρ => by
  simp only [execOp, hρ.get hx, Option.map_some, Option.map_none, hρ.get hi]
  have h2 : (i : Int) ≤ (s.size : Int) := by omega
  simp [Instr.sliceAt, Instr.slice, run_underlying ht, Instr.sliceBounds, Instr.sliceBound, asIntOf]
  intro h; omega
end
theorem toList_tail (s : ByteArray) (i : Nat) : (s.extract i s.size).toList = s.toList.drop i := by
  rw [ByteArray.toList_eq, ByteArray.toList_eq, ByteArray.data_extract, Array.toList_extract]
  simp only [List.extract_eq_drop_take]
  rw [List.take_of_length_le (by simp)]
theorem size_toList (s : ByteArray) : s.toList.length = s.size := by rw [ByteArray.toList_eq]; simp
theorem word_nonneg : ∀ l : List UInt8, 0 ≤ keyWords.word l
  | [] => Int.le_refl _
  | c :: l => by have := word_nonneg l; simp only [keyWords.word]; omega
theorem word_lt : ∀ l : List UInt8, keyWords.word l < 256 ^ l.length
  | [] => by simp [keyWords.word]
  | c :: l => by
    have h1 := word_lt l
    have h2 : c.toNat < 256 := c.toNat_lt
    simp only [keyWords.word, List.length_cons, Int.pow_succ]
    omega
theorem word_step {x : Int} {b : UInt8} (h0 : 0 ≤ x) (h1 : x < 72057594037927936) : bits .or .u64 (IntKind.u64.wrap (x * 2 ^ 8)) (IntKind.u64.wrap (b.toNat : Nat)) = (b.toNat : Int) + 256 * x := by
  have hb : b.toNat < 256 := b.toNat_lt
  rw [IntKind.wrap_u64, IntKind.wrap_u64]
  have e1 : x * 2 ^ 8 % 18446744073709551616 = x * 256 := by
    rw [show (2 : Int) ^ 8 = 256 from rfl]; omega
  have e2 : ((b.toNat : Nat) : Int) % 18446744073709551616 = (b.toNat : Nat) := by omega
  rw [e1, e2]
  rw [bits_join .u64 64 (by decide) (fun n h0 h1 => by rw [IntKind.wrap_u64]; exact Int.emod_eq_of_lt h0 (by simpa using h1)) 8 (x * 256) (b.toNat : Nat) (by omega) (by rw [show (2 : Int) ^ 8 = 256 from rfl]; omega) (by rw [show (2 : Int) ^ 64 = 18446744073709551616 from rfl]; omega) (by omega) (by rw [show (2 : Int) ^ 8 = 256 from rfl]; omega) (by rw [show (2 : Int) ^ 64 = 18446744073709551616 from rfl]; omega)]
  omega
theorem keyWords_cons {l : List UInt8} (h : 0 < l.length) : keyWords l = keyWords.word (l.take 8) :: keyWords (l.drop 8) := by
  cases l with
  | nil => simp at h
  | cons c l => rw [keyWords]
end Go.Proofs.YtcopemgkjbaaeaaDoor
namespace Go.Proofs.YtcopemgkjbaaeaaDoor
set_option linter.all false
open Go.RowKit
def lanesV : List Value := [.int .u64 2611923443488327891, .int .u64 11400714819323198485, .int .i64 29, .int .u64 1376283091369227076, .int .u64 14029467366897019727, .int .i64 32]
def Lanes (w : World) : Prop := ∃ t fr, w.heap[0]? = some (.cells lanesV.toArray t fr)
theorem Lanes.lt {w : World} (h : Lanes w) : 0 < w.heap.size := by obtain ⟨t, fr, h⟩ := h; exact (Array.getElem?_eq_some_iff.1 h).1
theorem Lanes.ext {w w' : World} {X : List Nat} (h : Lanes w) (hx : Ext X w w') (h0 : 0 ∉ X) : Lanes w' := by
  obtain ⟨t, fr, h1⟩ := h
  exact ⟨t, fr, by rw [hx.block 0 (Array.getElem?_eq_some_iff.1 h1).1 h0]; exact h1⟩
theorem Lanes.cell {w : World} (h : Lanes w) (i : Nat) : w.cell? ⟨0, i, none⟩ = lanesV[i]? := by
  obtain ⟨t, fr, h1⟩ := h
  simp [World.cell?, h1]
theorem Lanes.load1 {P : Program} {w : World} {t : TypeId} {i : Nat} {v : Value} (h : Lanes w) (ht : NAgg P t) (hi : lanesV[i]? = some v) : (Instr.loadAt t (.pointer (some ⟨0, i, none⟩))).run P w = .ok v w := by
  have hc := h.cell i
  rw [hi] at hc
  simp [Instr.loadAt, Instr.sureAddr, loadVar, ht w, load, Sem.run, hc]
theorem Lanes.cells {P : Program} {w : World} (h : Lanes w) : ∀ (k i j : Nat) (acc : Array Value), i + j + k ≤ lanesV.length → (loadCellsFrom ⟨0, i, none⟩ j k acc).run P w = .ok (acc ++ ((lanesV.drop (i + j)).take k).toArray) w
  | 0, i, j, acc, _ => by simp [loadCellsFrom]
  | k + 1, i, j, acc, hle => by
    have hlt : i + j < lanesV.length := by omega
    have hc : w.cell? ((⟨0, i, none⟩ : Addr).add j) = some (lanesV[i + j]) := by
      have e : ((⟨0, i, none⟩ : Addr).add j) = ⟨0, i + j, none⟩ := by unfold Addr.add; split <;> simp_all
      rw [e, h.cell]; simp [hlt]
    simp only [loadCellsFrom, load]
    simp only [Sem.run_bind, Sem.run, hc, Result.andThen_ok]
    rw [h.cells k i (j + 1) _ (by omega)]
    congr 1
    rw [List.drop_eq_getElem_cons hlt, List.take_succ_cons, show i + (j + 1) = i + j + 1 from by omega]
    simp
theorem Lanes.loadN {P : Program} {w : World} {t : TypeId} {sz i : Nat} {vs : List Value} (h : Lanes w) (ht : Agg P t sz) (hi : (lanesV.drop i).take sz = vs) (hle : Nat.ble (i + sz) lanesV.length = true) :
    (Instr.loadAt t (.pointer (some ⟨0, i, none⟩))).run P w = .ok (.agg vs.toArray) w := by
  have hr := h.cells (P := P) sz i 0 #[] (by simpa [Nat.ble_eq] using hle)
  simp only [Instr.loadAt, Instr.sureAddr, loadVar, loadCells]
  simp [ht.1 w, ht.2 w, hr, hi]
theorem stir_cr {w : World} {g : Nat} (a b x : Int) (hl : Lanes w) (hg : Blk w g 30 #[.int .u64 a, .int .u64 b]) (hg0 : g ≠ 0) :
    CR Tryd.prog 143 [.pointer (some ⟨g, 0, none⟩), .int .u64 x] w fun v w' => v = .tuple #[] ∧ Blk w' g 30 #[.int .u64 (stirL 11400714819323198485 29 a x), .int .u64 (stirL 14029467366897019727 32 b x)] ∧ Ext [g] w w' := by
  have hn0 : 0 ∉ [g] := by simpa using hg0.symm
  have st := (St.init w [g]).add hg (by simp)
  have hlt := hg.lt
  refine CR_enter Tryd.func143 rfl Tryd.ntmps143 rfl ?_
  refine W_seq <| W_region ?_
  let a1 : Value := .pointer (some ⟨g, 0, none⟩)
  let a2 : Value := .agg #[.int .u64 2611923443488327891, .int .u64 11400714819323198485, .int .i64 29, .int .u64 1376283091369227076, .int .u64 14029467366897019727, .int .i64 32]
  refine RP_sg 2 [.l 216 (.pointer (some ⟨0, 0, none⟩)) a2, .p (.int .i64 0)] [(0, a1), (1, .int .u64 x), (7, a2), (8, .int .i64 0)] ⟨Lanes.loadN (hl.ext st.ext hn0) agg_216 rfl rfl, trivial⟩ ?_
  refine RP_nil <| n_then <| W_block <| W_unroll 3 ?_
  refine W_seq <| W_region <| RP_sg 1 [.p (.bool true)] [(0, a1), (1, .int .u64 x), (7, a2), (8, .int .i64 0), (9, .bool true)] trivial ?_
  refine RP_nil <| n_then <| W_seq <| W_true rfl ?_
  refine W_skip <| n_then <| W_seq <| W_block <| W_seq <| W_region ?_
  let a3 : Value := .agg #[.int .u64 2611923443488327891, .int .u64 11400714819323198485, .int .i64 29]
  refine RP_sg 2 [.p (.int .i64 0), .p a3] [(0, a1), (1, .int .u64 x), (7, a2), (8, .int .i64 0), (10, .int .i64 0), (11, a3)] trivial ?_
  refine RP_e rfl (ef_alloc st zero_215 rfl) ?_
  rintro _ w4 ⟨g7, rfl, hg7, hg7', st5, hx6⟩
  replace st5 : St [g] w w4 [(g7, 215, [.int .u64 0, .int .u64 0, .int .i64 0]), (g, 30, [.int .u64 a, .int .u64 b])] := st5
  let a8 : Value := .pointer (some ⟨g7, 0, none⟩)
  refine RP_sg 1 [.p (.int .i64 0)] [(0, a1), (1, .int .u64 x), (4, .int .i64 0), (5, a8), (7, a2), (8, .int .i64 0), (11, a3)] trivial ?_
  refine RP_e rfl (ef_store st5 rfl rfl rfl size_215 0 rfl rfl rfl rfl (.inr hg7)) ?_
  rintro _ w9 ⟨rfl, st10, hx11⟩
  replace st10 : St [g] w w9 [(g7, 215, [.int .u64 2611923443488327891, .int .u64 11400714819323198485, .int .i64 29]), (g, 30, [.int .u64 a, .int .u64 b])] := st10
  refine RP_pk [(0, a1), (1, .int .u64 x), (4, .int .i64 0), (5, a8), (7, a2), (8, .int .i64 0)] ?_
  refine RP_nil <| n_then <| W_seq <| W_regionS ⟨(fun w' => Blk w' g7 215 [.int .u64 2611923443488327891, .int .u64 11400714819323198485, .int .i64 29].toArray ∧ Blk w' g 30 [.int .u64 a, .int .u64 b].toArray), (fun _ => True)⟩ (.cons 1 0 (.cons 1 1 (.cons 1 2 (.cons 1 3 (.cons 1 4 (.cons 1 5 (.cons 1 6 (.cons 1 7 (.cons 1 8 (.cons 1 9 (.cons 0 10 .nil))))))))))) 11 (by kernel_rfl) (by kernel_rfl) ?_
  have st12 := st10.drew
  refine RS_sg 10 [.p a1, .p (.int .i64 0), .p a1, .p a1, .l 28 a1 (.int .u64 a), .p (.int .u64 x), .p (.int .u64 (bits .xor .u64 a x)), .p (.pointer (some ⟨g7, 1, none⟩)), .l 28 (.pointer (some ⟨g7, 1, none⟩)) (.int .u64 11400714819323198485), .p (.int .u64 (IntKind.u64.wrap ((bits .xor .u64 a x) * 11400714819323198485)))] [(0, a1), (1, .int .u64 x), (4, .int .i64 0), (5, a8), (7, a2), (8, .int .i64 0), (21, .int .u64 (IntKind.u64.wrap ((bits .xor .u64 a x) * 11400714819323198485)))] (⟨st12.get 0 rfl, st12.get 1 rfl⟩) (fun _ hS => ⟨ld1b (hS.2) nagg_28 rfl, ld1b (hS.1) nagg_28 rfl, trivial⟩) ?_
  refine RS_sgP 1 [.p (.int .u64 (IntKind.u64.wrap ((bits .xor .u64 a x) * 11400714819323198485)))] [(0, a1), (1, .int .u64 x), (4, .int .i64 0), (5, a8), (6, .int .u64 (IntKind.u64.wrap ((bits .xor .u64 a x) * 11400714819323198485))), (7, a2), (8, .int .i64 0)] (fun _ => trivial) ?_
  refine RS_nil <| n_then <| W_regionS ⟨(fun w' => Blk w' g7 215 [.int .u64 2611923443488327891, .int .u64 11400714819323198485, .int .i64 29].toArray), (fun _ => True)⟩ (.cons 1 0 (.cons 1 1 (.cons 1 2 (.cons 1 3 (.cons 1 4 (.cons 1 5 (.cons 1 6 (.cons 1 7 (.cons 1 8 (.cons 1 9 (.cons 2 10 .nil))))))))))) 11 (by kernel_rfl) (by kernel_rfl) ?_
  have st13 := st12.drew
  refine RS_sg 10 [.p a1, .p (.int .i64 0), .p (.int .u64 (IntKind.u64.wrap ((bits .xor .u64 a x) * 11400714819323198485))), .p (.int .u64 (IntKind.u64.wrap ((bits .xor .u64 a x) * 11400714819323198485))), .p (.pointer (some ⟨g7, 2, none⟩)), .l 3 (.pointer (some ⟨g7, 2, none⟩)) (.int .i64 29), .p (.int .u64 ((IntKind.u64.wrap ((bits .xor .u64 a x) * 11400714819323198485)).fdiv (2 ^ 29))), .p (.int .u64 (bits .xor .u64 (IntKind.u64.wrap ((bits .xor .u64 a x) * 11400714819323198485)) ((IntKind.u64.wrap ((bits .xor .u64 a x) * 11400714819323198485)).fdiv (2 ^ 29)))), .p a1, .p a1] [(0, a1), (1, .int .u64 x), (7, a2), (8, .int .i64 0), (29, .int .u64 (bits .xor .u64 (IntKind.u64.wrap ((bits .xor .u64 a x) * 11400714819323198485)) ((IntKind.u64.wrap ((bits .xor .u64 a x) * 11400714819323198485)).fdiv (2 ^ 29)))), (31, a1)] (st13.get 0 rfl) (fun _ hS => ⟨ld1b (hS) nagg_3 rfl, trivial⟩) ?_
  refine RS_e rfl rfl (ef_store st13 rfl rfl rfl size_28 1 rfl rfl rfl rfl (.inl (by simp))) ?_
  rintro _ w14 ⟨rfl, st15, hx16⟩
  replace st15 : St [g] w w14 [(g7, 215, [.int .u64 2611923443488327891, .int .u64 11400714819323198485, .int .i64 29]), (g, 30, [.int .u64 (bits .xor .u64 (IntKind.u64.wrap ((bits .xor .u64 a x) * 11400714819323198485)) ((IntKind.u64.wrap ((bits .xor .u64 a x) * 11400714819323198485)).fdiv (2 ^ 29))), .int .u64 b])] := st15
  refine ⟨st15.get 0 rfl, ?_⟩
  refine RS_pk [(0, a1), (1, .int .u64 x), (7, a2), (8, .int .i64 0)] ?_
  refine RS_nil <| n_block <| n_then <| W_region <| RP_sg 2 [.p (.int .i64 1), .p (.int .i64 1)] [(0, a1), (1, .int .u64 x), (7, a2), (8, .int .i64 1)] trivial ?_
  refine RP_nil <| n_unr <| W_seq <| W_region <| RP_sg 1 [.p (.bool true)] [(0, a1), (1, .int .u64 x), (7, a2), (8, .int .i64 1), (9, .bool true)] trivial ?_
  refine RP_nil <| n_then <| W_seq <| W_true rfl ?_
  refine W_skip <| n_then <| W_seq <| W_block <| W_seq <| W_region ?_
  let a17 : Value := .agg #[.int .u64 1376283091369227076, .int .u64 14029467366897019727, .int .i64 32]
  refine RP_sg 2 [.p (.int .i64 1), .p a17] [(0, a1), (1, .int .u64 x), (7, a2), (8, .int .i64 1), (10, .int .i64 1), (11, a17)] trivial ?_
  refine RP_e rfl (ef_alloc st15 zero_215 rfl) ?_
  rintro _ w18 ⟨g21, rfl, hg21, hg21', st19, hx20⟩
  replace st19 : St [g] w w18 [(g21, 215, [.int .u64 0, .int .u64 0, .int .i64 0]), (g7, 215, [.int .u64 2611923443488327891, .int .u64 11400714819323198485, .int .i64 29]), (g, 30, [.int .u64 (bits .xor .u64 (IntKind.u64.wrap ((bits .xor .u64 a x) * 11400714819323198485)) ((IntKind.u64.wrap ((bits .xor .u64 a x) * 11400714819323198485)).fdiv (2 ^ 29))), .int .u64 b])] := st19
  let a22 : Value := .pointer (some ⟨g21, 0, none⟩)
  refine RP_sg 1 [.p (.int .i64 1)] [(0, a1), (1, .int .u64 x), (4, .int .i64 1), (5, a22), (7, a2), (8, .int .i64 1), (11, a17)] trivial ?_
  refine RP_e rfl (ef_store st19 rfl rfl rfl size_215 0 rfl rfl rfl rfl (.inr hg21)) ?_
  rintro _ w23 ⟨rfl, st24, hx25⟩
  replace st24 : St [g] w w23 [(g21, 215, [.int .u64 1376283091369227076, .int .u64 14029467366897019727, .int .i64 32]), (g7, 215, [.int .u64 2611923443488327891, .int .u64 11400714819323198485, .int .i64 29]), (g, 30, [.int .u64 (bits .xor .u64 (IntKind.u64.wrap ((bits .xor .u64 a x) * 11400714819323198485)) ((IntKind.u64.wrap ((bits .xor .u64 a x) * 11400714819323198485)).fdiv (2 ^ 29))), .int .u64 b])] := st24
  refine RP_pk [(0, a1), (1, .int .u64 x), (4, .int .i64 1), (5, a22), (7, a2), (8, .int .i64 1)] ?_
  refine RP_nil <| n_then <| W_seq <| W_regionS ⟨(fun w' => Blk w' g21 215 [.int .u64 1376283091369227076, .int .u64 14029467366897019727, .int .i64 32].toArray ∧ Blk w' g 30 [.int .u64 (bits .xor .u64 (IntKind.u64.wrap ((bits .xor .u64 a x) * 11400714819323198485)) ((IntKind.u64.wrap ((bits .xor .u64 a x) * 11400714819323198485)).fdiv (2 ^ 29))), .int .u64 b].toArray), (fun _ => True)⟩ (.cons 1 0 (.cons 1 1 (.cons 1 2 (.cons 1 3 (.cons 1 4 (.cons 1 5 (.cons 1 6 (.cons 1 7 (.cons 1 8 (.cons 1 9 (.cons 0 10 .nil))))))))))) 11 (by kernel_rfl) (by kernel_rfl) ?_
  have st26 := st24.drew
  refine RS_sg 10 [.p a1, .p (.int .i64 1), .p a1, .p (.pointer (some ⟨g, 1, none⟩)), .l 28 (.pointer (some ⟨g, 1, none⟩)) (.int .u64 b), .p (.int .u64 x), .p (.int .u64 (bits .xor .u64 b x)), .p (.pointer (some ⟨g21, 1, none⟩)), .l 28 (.pointer (some ⟨g21, 1, none⟩)) (.int .u64 14029467366897019727), .p (.int .u64 (IntKind.u64.wrap ((bits .xor .u64 b x) * 14029467366897019727)))] [(0, a1), (1, .int .u64 x), (4, .int .i64 1), (5, a22), (7, a2), (8, .int .i64 1), (21, .int .u64 (IntKind.u64.wrap ((bits .xor .u64 b x) * 14029467366897019727)))] (⟨st26.get 0 rfl, st26.get 2 rfl⟩) (fun _ hS => ⟨ld1b (hS.2) nagg_28 rfl, ld1b (hS.1) nagg_28 rfl, trivial⟩) ?_
  refine RS_sgP 1 [.p (.int .u64 (IntKind.u64.wrap ((bits .xor .u64 b x) * 14029467366897019727)))] [(0, a1), (1, .int .u64 x), (4, .int .i64 1), (5, a22), (6, .int .u64 (IntKind.u64.wrap ((bits .xor .u64 b x) * 14029467366897019727))), (7, a2), (8, .int .i64 1)] (fun _ => trivial) ?_
  refine RS_nil <| n_then <| W_regionS ⟨(fun w' => Blk w' g21 215 [.int .u64 1376283091369227076, .int .u64 14029467366897019727, .int .i64 32].toArray), (fun _ => True)⟩ (.cons 1 0 (.cons 1 1 (.cons 1 2 (.cons 1 3 (.cons 1 4 (.cons 1 5 (.cons 1 6 (.cons 1 7 (.cons 1 8 (.cons 1 9 (.cons 2 10 .nil))))))))))) 11 (by kernel_rfl) (by kernel_rfl) ?_
  have st27 := st26.drew
  let a28 : Value := .pointer (some ⟨g, 1, none⟩)
  refine RS_sg 10 [.p a1, .p (.int .i64 1), .p (.int .u64 (IntKind.u64.wrap ((bits .xor .u64 b x) * 14029467366897019727))), .p (.int .u64 (IntKind.u64.wrap ((bits .xor .u64 b x) * 14029467366897019727))), .p (.pointer (some ⟨g21, 2, none⟩)), .l 3 (.pointer (some ⟨g21, 2, none⟩)) (.int .i64 32), .p (.int .u64 ((IntKind.u64.wrap ((bits .xor .u64 b x) * 14029467366897019727)).fdiv (2 ^ 32))), .p (.int .u64 (bits .xor .u64 (IntKind.u64.wrap ((bits .xor .u64 b x) * 14029467366897019727)) ((IntKind.u64.wrap ((bits .xor .u64 b x) * 14029467366897019727)).fdiv (2 ^ 32)))), .p a1, .p a28] [(0, a1), (1, .int .u64 x), (7, a2), (8, .int .i64 1), (29, .int .u64 (bits .xor .u64 (IntKind.u64.wrap ((bits .xor .u64 b x) * 14029467366897019727)) ((IntKind.u64.wrap ((bits .xor .u64 b x) * 14029467366897019727)).fdiv (2 ^ 32)))), (31, a28)] (st27.get 0 rfl) (fun _ hS => ⟨ld1b (hS) nagg_3 rfl, trivial⟩) ?_
  refine RS_e rfl rfl (ef_store st27 rfl rfl rfl size_28 2 rfl rfl rfl rfl (.inl (by simp))) ?_
  rintro _ w29 ⟨rfl, st30, hx31⟩
  replace st30 : St [g] w w29 [(g21, 215, [.int .u64 1376283091369227076, .int .u64 14029467366897019727, .int .i64 32]), (g7, 215, [.int .u64 2611923443488327891, .int .u64 11400714819323198485, .int .i64 29]), (g, 30, [.int .u64 (bits .xor .u64 (IntKind.u64.wrap ((bits .xor .u64 a x) * 11400714819323198485)) ((IntKind.u64.wrap ((bits .xor .u64 a x) * 11400714819323198485)).fdiv (2 ^ 29))), .int .u64 (bits .xor .u64 (IntKind.u64.wrap ((bits .xor .u64 b x) * 14029467366897019727)) ((IntKind.u64.wrap ((bits .xor .u64 b x) * 14029467366897019727)).fdiv (2 ^ 32)))])] := st30
  refine ⟨st30.get 0 rfl, ?_⟩
  refine RS_pk [(0, a1), (1, .int .u64 x), (7, a2), (8, .int .i64 1)] ?_
  refine RS_nil <| n_block <| n_then <| W_region <| RP_sg 2 [.p (.int .i64 2), .p (.int .i64 2)] [(0, a1), (1, .int .u64 x), (7, a2), (8, .int .i64 2)] trivial ?_
  refine RP_nil <| n_unr <| W_seq <| W_region <| RP_sg 1 [.p (.bool false)] [(0, a1), (1, .int .u64 x), (7, a2), (8, .int .i64 2), (9, .bool false)] trivial ?_
  refine RP_nil <| n_then <| W_seq <| W_false rfl ?_
  refine W_exit ?_
  refine e_then <| e_unr <| e_here ?_
  refine end_of (P := Tryd.prog) (fn := Tryd.f143) (m := [(0, .pointer (some ⟨g, 0, none⟩)), (1, .int .u64 x), (7, .agg #[.int .u64 2611923443488327891, .int .u64 11400714819323198485, .int .i64 29, .int .u64 1376283091369227076, .int .u64 14029467366897019727, .int .i64 32]), (8, .int .i64 2), (9, .bool false)]) (w := w29) (res0 rfl ) ?_
  exact ⟨rfl, st30.get 2 rfl, st30.ext⟩
theorem dec_w {n : Nat} (h : n < 1000000000) : IntKind.i64.wrap (((n : Nat) : Int) - 1) = ((n : Nat) : Int) - 1 := by rw [wrap_in (by omega) (by omega)]
theorem dec_w2 {n : Nat} (h0 : 0 < n) (h : n < 1000000000) : IntKind.i64.wrap (((n : Nat) : Int) - 1 - 1) = ((n - 1 : Nat) : Int) - 1 := by rw [wrap_in (by omega) (by omega)]; omega
theorem word_drop {l : List UInt8} {q : Nat} {b : UInt8} (h : l[q]? = some b) : keyWords.word (l.drop q) = (b.toNat : Int) + 256 * keyWords.word (l.drop (q + 1)) := by
  obtain ⟨h1, h2⟩ := List.getElem?_eq_some_iff.1 h
  rw [List.drop_eq_getElem_cons h1, h2, keyWords.word]
theorem min_w {n : Nat} : (if ((n : Nat) : Int) < 8 then ((n : Nat) : Int) else 8) = ((min 8 n : Nat) : Int) := by split <;> omega
theorem word_take_lt (l : List UInt8) {q n : Nat} (hq : 0 < q) (hn : n ≤ 8) : keyWords.word ((l.take n).drop q) < 72057594037927936 := by
  have h := word_lt ((l.take n).drop q)
  have h2 : ((l.take n).drop q).length ≤ 7 := by simp only [List.length_drop, List.length_take]; omega
  have h3 : 256 ^ ((l.take n).drop q).length ≤ 72057594037927936 := Nat.le_trans (Nat.pow_le_pow_right (by decide) h2) (by decide)
  have h4 : (((256 ^ ((l.take n).drop q).length : Nat)) : Int) = (256 : Int) ^ ((l.take n).drop q).length := by simp
  omega
theorem take_min (l : List UInt8) : l.take (min 8 l.length) = l.take 8 := by
  rcases Nat.le_total 8 l.length with h | h
  · rw [Nat.min_eq_left h]
  · rw [Nat.min_eq_right h, List.take_of_length_le (Nat.le_refl _), List.take_of_length_le h]
theorem drop_min (l : List UInt8) : l.drop (min 8 l.length) = l.drop 8 := by
  rcases Nat.le_total 8 l.length with h | h
  · rw [Nat.min_eq_left h]
  · rw [Nat.min_eq_right h, List.drop_of_length_le (Nat.le_refl _), List.drop_of_length_le h]
theorem mixOf_cr {w : World} (key : ByteArray) (c n : Int) (hl : Lanes w) (hk : key.size < 1000000000) :
    CR Tryd.prog 123 [.string key, .agg #[.int .i64 c, .int .i64 n]] w fun v w' => v = .agg #[.int .u64 (laneA (mixWords key c n)), .int .u64 (laneB (mixWords key c n))] ∧ Ext [] w w' := by
  have st := St.init w []
  have h0 := hl.lt
  obtain ⟨a1, ha1⟩ : ∃ a1, a1 = stirL 11400714819323198485 29 2611923443488327891 (IntKind.u64.wrap (((key).size : Nat) : Int)) := ⟨_, rfl⟩
  obtain ⟨b1, hb1⟩ : ∃ b1, b1 = stirL 14029467366897019727 32 1376283091369227076 (IntKind.u64.wrap (((key).size : Nat) : Int)) := ⟨_, rfl⟩
  refine CR_enter Tryd.func123 rfl Tryd.ntmps123 rfl ?_
  refine W_seq <| W_region <| RP_e rfl (ef_box st rfl rfl) ?_
  rintro _ w1 ⟨g4, rfl, hg4, hg4', st2, hx3⟩
  replace st2 : St [] w w1 [(g4, 59, [.int .i64 c, .int .i64 n])] := st2
  refine RP_e rfl (ef_alloc st2 zero_30 rfl) ?_
  rintro _ w5 ⟨g8, rfl, hg8, hg8', st6, hx7⟩
  replace st6 : St [] w w5 [(g8, 30, [.int .u64 0, .int .u64 0]), (g4, 59, [.int .i64 c, .int .i64 n])] := st6
  let a9 : Value := .pointer (some ⟨g4, 0, none⟩)
  let a10 : Value := .pointer (some ⟨g8, 0, none⟩)
  refine RP_pk [(0, .string key), (3, a9), (4, a10)] ?_
  refine RP_nil <| n_then <| W_seq <| W_region ?_
  let a11 : Value := .agg #[.int .u64 2611923443488327891, .int .u64 1376283091369227076]
  refine RP_sg 7 [.p (.pointer (some ⟨0, 0, none⟩)), .p (.pointer (some ⟨0, 0, none⟩)), .l 28 (.pointer (some ⟨0, 0, none⟩)) (.int .u64 2611923443488327891), .p (.pointer (some ⟨0, 3, none⟩)), .p (.pointer (some ⟨0, 3, none⟩)), .l 28 (.pointer (some ⟨0, 3, none⟩)) (.int .u64 1376283091369227076), .p a11] [(0, .string key), (3, a9), (4, a10), (15, a11)] ⟨Lanes.load1 (hl.ext st6.ext List.not_mem_nil) nagg_28 rfl, Lanes.load1 (hl.ext st6.ext List.not_mem_nil) nagg_28 rfl, trivial⟩ ?_
  refine RP_e rfl (ef_alloc st6 zero_30 rfl) ?_
  rintro _ w12 ⟨g5, rfl, hg5, hg5', st13, hx14⟩
  replace st13 : St [] w w12 [(g5, 30, [.int .u64 0, .int .u64 0]), (g8, 30, [.int .u64 0, .int .u64 0]), (g4, 59, [.int .i64 c, .int .i64 n])] := st13
  refine RP_e rfl (ef_store st13 rfl rfl rfl size_30 0 rfl rfl rfl rfl (.inr hg5)) ?_
  rintro _ w15 ⟨rfl, st16, hx17⟩
  replace st16 : St [] w w15 [(g5, 30, [.int .u64 2611923443488327891, .int .u64 1376283091369227076]), (g8, 30, [.int .u64 0, .int .u64 0]), (g4, 59, [.int .i64 c, .int .i64 n])] := st16
  let a18 : Value := .pointer (some ⟨g5, 0, none⟩)
  refine RP_pk [(0, .string key), (3, a9), (4, a10), (5, a18)] ?_
  refine RP_nil <| n_then <| W_seq <| W_region <| RP_sg 3 [.p (.string key), .p (.int .i64 (((key).size : Nat) : Int)), .p (.int .u64 (IntKind.u64.wrap (((key).size : Nat) : Int)))] [(0, .string key), (3, a9), (4, a10), (5, a18), (18, .int .u64 (IntKind.u64.wrap (((key).size : Nat) : Int)))] trivial ?_
  have hst := stir_cr (2611923443488327891) (1376283091369227076) (IntKind.u64.wrap (((key).size : Nat) : Int)) (hl.ext st16.ext List.not_mem_nil) (st16.get 0 rfl) (by omega)
  rw [← ha1, ← hb1] at hst
  refine RP_e rfl (ef_call (k := 143) (args := [a18, .int .u64 (IntKind.u64.wrap (((key).size : Nat) : Int))]) (hst) body_143 (by kernel_rfl)) ?_
  rintro _ w19 ⟨_, rfl, rfl, hbs, hx21⟩
  have st20 := st16.turned 0 rfl (.inr hg5) hbs hx21
  have st22 : St [] w w19 [(g5, 30, [.int .u64 a1, .int .u64 b1]), (g8, 30, [.int .u64 0, .int .u64 0]), (g4, 59, [.int .i64 c, .int .i64 n])] := st20
  refine RP_pk [(0, .string key), (3, a9), (4, a10), (5, a18)] ?_
  refine RP_nil <| n_then <| W_seq <| W_block <| W_loop (fun k_ m_ w_ => ∃ (kb : ByteArray) (a b : Int), kb.size = k_ ∧ m_ = [(0, .string kb), (3, a9), (4, a10), (5, a18)] ∧ St [] w w_ [(g5, 30, [.int .u64 a, .int .u64 b]), (g8, 30, [.int .u64 0, .int .u64 0]), (g4, 59, [.int .i64 c, .int .i64 n])] ∧ kb.size < 1000000000 ∧ (keyWords kb.toList).foldl (stirL 11400714819323198485 29) a = (keyWords key.toList).foldl (stirL 11400714819323198485 29) a1 ∧ (keyWords kb.toList).foldl (stirL 14029467366897019727 32) b = (keyWords key.toList).foldl (stirL 14029467366897019727 32) b1) ⟨key, a1, b1, rfl, rfl, st22, hk, rfl, rfl⟩ ?_
  rintro _ _ w24 ⟨kb, a, b, rfl, rfl, st23, hks, hA, hB⟩
  refine W_seq <| W_seq <| W_region <| RP_sg 3 [.p (.string kb), .p (.int .i64 (((kb).size : Nat) : Int)), .p (.bool (decide ((((kb).size : Nat) : Int) > 0)))] [(0, .string kb), (3, a9), (4, a10), (5, a18), (22, .bool (decide ((((kb).size : Nat) : Int) > 0)))] trivial ?_
  refine RP_nil <| n_then <| W_cond rfl (fun c22_25 => ?_) (fun c22_25 => ?_)
  ·
   have c22_25p := of_decide_eq_true c22_25
   refine W_skip <| n_then <| W_block <| W_seq <| W_region <| RP_sg 3 [.p (.string kb), .p (.int .i64 (((kb).size : Nat) : Int)), .p (.int .i64 (if (((kb).size : Nat) : Int) < 8 then (((kb).size : Nat) : Int) else 8))] [(0, .string kb), (3, a9), (4, a10), (5, a18), (25, .int .i64 (if (((kb).size : Nat) : Int) < 8 then (((kb).size : Nat) : Int) else 8))] trivial ?_
   refine RP_at (m' := [(0, .string kb), (3, a9), (4, a10), (5, a18), (25, .int .i64 (((min 8 (kb).size) : Nat) : Int))]) (by rw [min_w]) ?_
   refine RP_sg 1 [.p (.int .i64 (((min 8 (kb).size) : Nat) : Int))] [(0, .string kb), (3, a9), (4, a10), (5, a18), (6, .int .i64 (((min 8 (kb).size) : Nat) : Int))] trivial ?_
   refine RP_nil <| n_then <| W_seq <| W_region <| RP_sg 1 [.p (.int .u64 0)] [(0, .string kb), (3, a9), (4, a10), (5, a18), (6, .int .i64 (((min 8 (kb).size) : Nat) : Int)), (7, .int .u64 0)] trivial ?_
   refine RP_nil <| n_then <| W_seq <| W_seq <| W_region <| RP_sg 2 [.p (.int .i64 (((min 8 (kb).size) : Nat) : Int)), .p (.int .i64 (IntKind.i64.wrap ((((min 8 (kb).size) : Nat) : Int) - 1)))] [(0, .string kb), (3, a9), (4, a10), (5, a18), (6, .int .i64 (((min 8 (kb).size) : Nat) : Int)), (7, .int .u64 0), (27, .int .i64 (IntKind.i64.wrap ((((min 8 (kb).size) : Nat) : Int) - 1)))] trivial ?_
   refine RP_at (m' := [(0, .string kb), (3, a9), (4, a10), (5, a18), (6, .int .i64 (((min 8 (kb).size) : Nat) : Int)), (7, .int .u64 0), (27, .int .i64 (((min 8 (kb).size : Nat) : Int) - 1))]) (by rw [dec_w (by omega)]) ?_
   refine RP_sg 1 [.p (.int .i64 (((min 8 (kb).size : Nat) : Int) - 1))] [(0, .string kb), (3, a9), (4, a10), (5, a18), (6, .int .i64 (((min 8 (kb).size) : Nat) : Int)), (7, .int .u64 0), (8, .int .i64 (((min 8 (kb).size : Nat) : Int) - 1))] trivial ?_
   refine RP_nil <| n_then <| W_block <| W_loop (fun k_ m_ w_ => ∃ (q : Nat) (x : Int), q = k_ ∧ m_ = [(0, .string kb), (3, a9), (4, a10), (5, a18), (6, .int .i64 (((min 8 (kb).size) : Nat) : Int)), (7, .int .u64 x), (8, .int .i64 (((q : Nat) : Int) - 1))] ∧ w24 = w_ ∧ q ≤ min 8 (kb).size ∧ x = keyWords.word ((kb.toList.take (min 8 (kb).size)).drop q)) ⟨min 8 (kb).size, 0, rfl, rfl, rfl, Nat.le_refl _, by rw [List.drop_of_length_le (by simp only [List.length_take, size_toList]; omega)]; rfl⟩ ?_
   rintro _ _ _ ⟨q, x, rfl, rfl, rfl, hq, hx⟩
   refine W_seq <| W_seq <| W_region <| RP_sg 2 [.p (.int .i64 (((q : Nat) : Int) - 1)), .p (.bool (decide ((((q : Nat) : Int) - 1) ≥ 0)))] [(0, .string kb), (3, a9), (4, a10), (5, a18), (6, .int .i64 (((min 8 (kb).size) : Nat) : Int)), (7, .int .u64 x), (8, .int .i64 (((q : Nat) : Int) - 1)), (29, .bool (decide ((((q : Nat) : Int) - 1) ≥ 0)))] trivial ?_
   refine RP_nil <| n_then <| W_cond rfl (fun c29_28 => ?_) (fun c29_28 => ?_)
   ·
    have c29_28p := of_decide_eq_true c29_28
    refine W_skip <| n_then <| W_seq <| W_block <| W_region <| RP_sg 4 [.p (.int .u64 x), .p (.int .u64 (IntKind.u64.wrap (x * 2 ^ 8))), .p (.string kb), .p (.int .i64 (((q : Nat) : Int) - 1))] [(0, .string kb), (3, a9), (4, a10), (5, a18), (6, .int .i64 (((min 8 (kb).size) : Nat) : Int)), (8, .int .i64 (((q : Nat) : Int) - 1)), (33, .int .u64 (IntKind.u64.wrap (x * 2 ^ 8))), (34, .string kb), (35, .int .i64 (((q : Nat) : Int) - 1))] trivial ?_
    have hq0 : 0 < q := by omega
    refine RP_at (m' := [(0, .string kb), (3, a9), (4, a10), (5, a18), (6, .int .i64 (((min 8 (kb).size) : Nat) : Int)), (8, .int .i64 (((q : Nat) : Int) - 1)), (33, .int .u64 (IntKind.u64.wrap (x * 2 ^ 8))), (34, .string kb), (35, .int .i64 (((q - 1) : Nat) : Int))]) (by rw [show ((q : Nat) : Int) - 1 = ((q - 1 : Nat) : Int) by omega]) ?_
    obtain ⟨b0, hb0⟩ : ∃ b, (kb).toList[q - 1]? = some b := ⟨(kb).toList[q - 1]'(by rw [size_toList]; omega), by simp⟩
    refine RP_q rfl (v := .int .u8 ((b0.toNat : Nat) : Int)) (ev_sidx (by kernel_rfl) rfl rfl hb0) ?_
    refine RP_sg 2 [.p (.int .u64 (IntKind.u64.wrap ((b0.toNat : Nat) : Int))), .p (.int .u64 (bits .or .u64 (IntKind.u64.wrap (x * 2 ^ 8)) (IntKind.u64.wrap ((b0.toNat : Nat) : Int))))] [(0, .string kb), (3, a9), (4, a10), (5, a18), (6, .int .i64 (((min 8 (kb).size) : Nat) : Int)), (8, .int .i64 (((q : Nat) : Int) - 1)), (38, .int .u64 (bits .or .u64 (IntKind.u64.wrap (x * 2 ^ 8)) (IntKind.u64.wrap ((b0.toNat : Nat) : Int))))] trivial ?_
    refine RP_at (m' := [(0, .string kb), (3, a9), (4, a10), (5, a18), (6, .int .i64 (((min 8 (kb).size) : Nat) : Int)), (8, .int .i64 (((q : Nat) : Int) - 1)), (38, .int .u64 (((b0.toNat : Nat) : Int) + 256 * x))]) (by rw [word_step (x := x) (b := b0) (by rw [hx]; exact word_nonneg _) (by rw [hx]; exact word_take_lt _ (by omega) (by omega))]) ?_
    refine RP_sg 1 [.p (.int .u64 (((b0.toNat : Nat) : Int) + 256 * x))] [(0, .string kb), (3, a9), (4, a10), (5, a18), (6, .int .i64 (((min 8 (kb).size) : Nat) : Int)), (7, .int .u64 (((b0.toNat : Nat) : Int) + 256 * x)), (8, .int .i64 (((q : Nat) : Int) - 1))] trivial ?_
    refine RP_nil <| n_block <| n_then <| W_region <| RP_sg 2 [.p (.int .i64 (((q : Nat) : Int) - 1)), .p (.int .i64 (IntKind.i64.wrap ((((q : Nat) : Int) - 1) - 1)))] [(0, .string kb), (3, a9), (4, a10), (5, a18), (6, .int .i64 (((min 8 (kb).size) : Nat) : Int)), (7, .int .u64 (((b0.toNat : Nat) : Int) + 256 * x)), (31, .int .i64 (IntKind.i64.wrap ((((q : Nat) : Int) - 1) - 1)))] trivial ?_
    refine RP_at (m' := [(0, .string kb), (3, a9), (4, a10), (5, a18), (6, .int .i64 (((min 8 (kb).size) : Nat) : Int)), (7, .int .u64 (((b0.toNat : Nat) : Int) + 256 * x)), (31, .int .i64 (((q - 1 : Nat) : Int) - 1))]) (by rw [dec_w2 (n := q) (by omega) (by omega)]) ?_
    refine RP_sg 1 [.p (.int .i64 (((q - 1 : Nat) : Int) - 1))] [(0, .string kb), (3, a9), (4, a10), (5, a18), (6, .int .i64 (((min 8 (kb).size) : Nat) : Int)), (7, .int .u64 (((b0.toNat : Nat) : Int) + 256 * x)), (8, .int .i64 (((q - 1 : Nat) : Int) - 1))] trivial ?_
    refine RP_nil ?_
    exact ⟨_, by omega, q - 1, ((b0.toNat : Nat) : Int) + 256 * x, rfl, rfl, rfl, by omega, by rw [word_drop (b := b0) (by rw [List.getElem?_take, if_pos (by omega)]; exact hb0), show q - 1 + 1 = q from by omega, ← hx]⟩
   ·
    have c29_28p := of_decide_eq_false c29_28
    refine W_exit ?_
    refine e_then <| e_loop <| e_here ?_
    refine n_then <| W_seq <| W_region <| RP_sg 1 [.p (.int .u64 x)] [(0, .string kb), (3, a9), (4, a10), (5, a18), (6, .int .i64 (((min 8 (kb).size) : Nat) : Int)), (39, .int .u64 x)] trivial ?_
    refine RP_e rfl (ef_call (k := 143) (args := [a18, .int .u64 x]) (stir_cr (a) (b) (x) (hl.ext st23.ext List.not_mem_nil) (st23.get 0 rfl) (by omega)) body_143 (by kernel_rfl)) ?_
    rintro _ w29 ⟨_, rfl, rfl, hbs, hx31⟩
    have st30 := st23.turned 0 rfl (.inr hg5) hbs hx31
    have st32 : St [] w w29 [(g5, 30, [.int .u64 (stirL 11400714819323198485 29 (a) (x)), .int .u64 (stirL 14029467366897019727 32 (b) (x))]), (g8, 30, [.int .u64 0, .int .u64 0]), (g4, 59, [.int .i64 c, .int .i64 n])] := st30
    refine RP_pk [(0, .string kb), (3, a9), (4, a10), (5, a18), (6, .int .i64 (((min 8 (kb).size) : Nat) : Int))] ?_
    refine RP_nil <| n_then <| W_region <| RP_sg 2 [.p (.string kb), .p (.int .i64 (((min 8 (kb).size) : Nat) : Int))] [(3, a9), (4, a10), (5, a18), (41, .string kb), (42, .int .i64 (((min 8 (kb).size) : Nat) : Int))] trivial ?_
    refine RP_q rfl (v := .string ((kb).extract (min 8 (kb).size) (kb).size)) (ev_stail (by kernel_rfl) rfl rfl (by omega)) ?_
    refine RP_sg 1 [.p (.string ((kb).extract (min 8 (kb).size) (kb).size))] [(0, .string ((kb).extract (min 8 (kb).size) (kb).size)), (3, a9), (4, a10), (5, a18)] trivial ?_
    refine RP_nil <| n_block ?_
    have hq1 : q = 0 := by omega
    subst hq1
    rw [List.drop_zero] at hx
    have hA2 : (keyWords ((kb).extract (min 8 (kb).size) (kb).size).toList).foldl (stirL 11400714819323198485 29) (stirL 11400714819323198485 29 (a) (x)) = (keyWords key.toList).foldl (stirL 11400714819323198485 29) a1 := by rw [← hA, keyWords_cons (l := kb.toList) (by rw [size_toList]; omega), toList_tail]; simp only [List.foldl_cons]; rw [hx, ← size_toList, take_min, drop_min]
    have hB2 : (keyWords ((kb).extract (min 8 (kb).size) (kb).size).toList).foldl (stirL 14029467366897019727 32) (stirL 14029467366897019727 32 (b) (x)) = (keyWords key.toList).foldl (stirL 14029467366897019727 32) b1 := by rw [← hB, keyWords_cons (l := kb.toList) (by rw [size_toList]; omega), toList_tail]; simp only [List.foldl_cons]; rw [hx, ← size_toList, take_min, drop_min]
    exact ⟨_, by simp only [ByteArray.size_extract]; omega, ((kb).extract (min 8 (kb).size) (kb).size), stirL 11400714819323198485 29 (a) (x), stirL 14029467366897019727 32 (b) (x), rfl, rfl, st32, by simp only [ByteArray.size_extract]; omega, hA2, hB2⟩
  ·
   have c22_25p := of_decide_eq_false c22_25
   refine W_exit ?_
   refine e_then <| e_loop <| e_here ?_
   refine n_then <| W_seq <| W_region <| RP_sg 3 [.p a9, .l 3 a9 (.int .i64 c), .p (.int .u64 (IntKind.u64.wrap c))] [(3, a9), (4, a10), (5, a18), (46, .int .u64 (IntKind.u64.wrap c))] ⟨ld1 st23 nagg_3 2 rfl rfl, trivial⟩ ?_
   refine RP_e rfl (ef_call (k := 143) (args := [a18, .int .u64 (IntKind.u64.wrap c)]) (stir_cr (a) (b) (IntKind.u64.wrap c) (hl.ext st23.ext List.not_mem_nil) (st23.get 0 rfl) (by omega)) body_143 (by kernel_rfl)) ?_
   rintro _ w33 ⟨_, rfl, rfl, hbs, hx35⟩
   have st34 := st23.turned 0 rfl (.inr hg5) hbs hx35
   have st36 : St [] w w33 [(g5, 30, [.int .u64 (stirL 11400714819323198485 29 (a) (IntKind.u64.wrap c)), .int .u64 (stirL 14029467366897019727 32 (b) (IntKind.u64.wrap c))]), (g8, 30, [.int .u64 0, .int .u64 0]), (g4, 59, [.int .i64 c, .int .i64 n])] := st34
   refine RP_pk [(3, a9), (4, a10), (5, a18)] ?_
   refine RP_nil <| n_then <| W_seq <| W_region <| RP_sg 3 [.p (.pointer (some ⟨g4, 1, none⟩)), .l 3 (.pointer (some ⟨g4, 1, none⟩)) (.int .i64 n), .p (.int .u64 (IntKind.u64.wrap n))] [(4, a10), (5, a18), (50, .int .u64 (IntKind.u64.wrap n))] ⟨ld1 st36 nagg_3 2 rfl rfl, trivial⟩ ?_
   refine RP_e rfl (ef_call (k := 143) (args := [a18, .int .u64 (IntKind.u64.wrap n)]) (stir_cr (stirL 11400714819323198485 29 (a) (IntKind.u64.wrap c)) (stirL 14029467366897019727 32 (b) (IntKind.u64.wrap c)) (IntKind.u64.wrap n) (hl.ext st36.ext List.not_mem_nil) (st36.get 0 rfl) (by omega)) body_143 (by kernel_rfl)) ?_
   rintro _ w37 ⟨_, rfl, rfl, hbs, hx39⟩
   have st38 := st36.turned 0 rfl (.inr hg5) hbs hx39
   have st40 : St [] w w37 [(g5, 30, [.int .u64 (stirL 11400714819323198485 29 (stirL 11400714819323198485 29 (a) (IntKind.u64.wrap c)) (IntKind.u64.wrap n)), .int .u64 (stirL 14029467366897019727 32 (stirL 14029467366897019727 32 (b) (IntKind.u64.wrap c)) (IntKind.u64.wrap n))]), (g8, 30, [.int .u64 0, .int .u64 0]), (g4, 59, [.int .i64 c, .int .i64 n])] := st38
   refine RP_pk [(4, a10), (5, a18)] ?_
   refine RP_nil <| n_then <| W_seq <| W_region ?_
   let a41 : Value := .agg #[.int .u64 (stirL 11400714819323198485 29 (stirL 11400714819323198485 29 (a) (IntKind.u64.wrap c)) (IntKind.u64.wrap n)), .int .u64 (stirL 14029467366897019727 32 (stirL 14029467366897019727 32 (b) (IntKind.u64.wrap c)) (IntKind.u64.wrap n))]
   refine RP_sg 1 [.l 30 a18 a41] [(4, a10), (52, a41)] ⟨ldN st40 agg_30 0 rfl rfl rfl, trivial⟩ ?_
   refine RP_e rfl (ef_store st40 rfl rfl rfl size_30 1 rfl rfl rfl rfl (.inr hg8)) ?_
   rintro _ w42 ⟨rfl, st43, hx44⟩
   replace st43 : St [] w w42 [(g5, 30, [.int .u64 (stirL 11400714819323198485 29 (stirL 11400714819323198485 29 (a) (IntKind.u64.wrap c)) (IntKind.u64.wrap n)), .int .u64 (stirL 14029467366897019727 32 (stirL 14029467366897019727 32 (b) (IntKind.u64.wrap c)) (IntKind.u64.wrap n))]), (g8, 30, [.int .u64 (stirL 11400714819323198485 29 (stirL 11400714819323198485 29 (a) (IntKind.u64.wrap c)) (IntKind.u64.wrap n)), .int .u64 (stirL 14029467366897019727 32 (stirL 14029467366897019727 32 (b) (IntKind.u64.wrap c)) (IntKind.u64.wrap n))]), (g4, 59, [.int .i64 c, .int .i64 n])] := st43
   refine RP_pk [(4, a10)] ?_
   refine RP_nil <| n_then <| W_ret ?_
   have hz : kb.size = 0 := by omega
   have hzl : kb.toList = [] := List.eq_nil_of_length_eq_zero (by rw [size_toList]; exact hz)
   rw [hzl] at hA hB
   simp only [keyWords, List.foldl_nil] at hA hB
   refine ret_of (P := Tryd.prog) (fn := Tryd.f123) (m := [(4, .pointer (some ⟨g8, 0, none⟩))]) (w := w42) (res1 rfl (rv_cell rfl (by simpa [Instr.loadAt, Instr.sureAddr] using (ldN st43 agg_30 1 rfl rfl rfl)))) ?_
   exact ⟨by rw [hA, hB, ha1, hb1]; simp only [laneA, laneB, mixWords, List.foldl_cons, List.cons_append, List.foldl_append, List.foldl_nil]; rfl, st43.ext⟩
end Go.Proofs.YtcopemgkjbaaeaaDoor
namespace Go.Proofs.YtcopemgkjbaaeaaDoor
set_option linter.all false
open Go.RowKit
theorem tallyOf_cr {w : World} (e : Ent) (hl : Lanes w) (hk : e.key.size < 1000000000) : CR Tryd.prog 103 [e.v] w fun v w' => v = e.tal.v ∧ Ext [] w w' := by
  have st := St.init w []
  refine CR_enter Tryd.func103 rfl Tryd.ntmps103 rfl ?_
  refine W_seq <| W_region <| RP_e rfl (ef_box st rfl rfl) ?_
  rintro _ w1 ⟨g4, rfl, hg4, hg4', st2, hx3⟩
  replace st2 : St [] w w1 [(g4, 61, [.string e.key, .int .i64 e.c, .int .i64 e.n, .string e.val, .bool e.dead])] := st2
  refine RP_e rfl (ef_alloc st2 zero_32 rfl) ?_
  rintro _ w5 ⟨g8, rfl, hg8, hg8', st6, hx7⟩
  replace st6 : St [] w w5 [(g8, 32, [.int .i64 0, .int .u64 0, .int .u64 0]), (g4, 61, [.string e.key, .int .i64 e.c, .int .i64 e.n, .string e.val, .bool e.dead])] := st6
  let a9 : Value := .pointer (some ⟨g4, 0, none⟩)
  let a10 : Value := .pointer (some ⟨g8, 0, none⟩)
  refine RP_pk [(1, a9), (2, a10)] ?_
  refine RP_nil <| n_then <| W_seq <| W_region ?_
  let a11 : Value := .agg #[.int .i64 e.c, .int .i64 e.n]
  refine RP_sg 4 [.p a9, .l 9 a9 (.string e.key), .p (.pointer (some ⟨g4, 1, none⟩)), .l 59 (.pointer (some ⟨g4, 1, none⟩)) a11] [(2, a10), (4, .string e.key), (6, a11)] ⟨ld1 st6 nagg_9 1 rfl rfl, ldN st6 agg_59 1 rfl rfl rfl, trivial⟩ ?_
  refine RP_e rfl (ef_call (k := 123) (args := [.string e.key, a11]) (mixOf_cr _ _ _ (hl.ext st6.ext List.not_mem_nil) hk) body_123 (by kernel_rfl)) ?_
  rintro _ w12 ⟨_, rfl, rfl, hx14⟩
  have st13 := st6.call0 hx14
  let a15 : Value := .agg #[.int .i64 1, .int .u64 (laneA (mixWords e.key e.c e.n)), .int .u64 (laneB (mixWords e.key e.c e.n))]
  refine RP_sg 1 [.p a15] [(2, a10), (8, a15)] trivial ?_
  refine RP_e rfl (ef_store st13 rfl rfl rfl size_32 0 rfl rfl rfl rfl (.inr hg8)) ?_
  rintro _ w16 ⟨rfl, st17, hx18⟩
  replace st17 : St [] w w16 [(g8, 32, [.int .i64 1, .int .u64 (laneA (mixWords e.key e.c e.n)), .int .u64 (laneB (mixWords e.key e.c e.n))]), (g4, 61, [.string e.key, .int .i64 e.c, .int .i64 e.n, .string e.val, .bool e.dead])] := st17
  refine RP_pk [(2, a10)] ?_
  refine RP_nil <| n_then <| W_ret <| ret_of (P := Tryd.prog) (fn := Tryd.f103) (m := [(2, .pointer (some ⟨g8, 0, none⟩))]) (w := w16) (res1 rfl (rv_cell rfl (by simpa [Instr.loadAt, Instr.sureAddr] using (ldN st17 agg_32 0 rfl rfl rfl)))) ?_
  exact ⟨rfl, st17.ext⟩
def verOk (c n : Int) : Bool := decide (1 ≤ c) && (decide (c ≤ 1099511627776) && (decide (0 ≤ n) && decide (n < 8)))
theorem checkVersion_cr (c n : Int) (w : World) : CR Tryd.prog 112 [.agg #[.int .i64 c, .int .i64 n]] w fun v w' => v = .int .i64 (cond (verOk c n) 0 30) ∧ Ext [] w w' := by
  have st := St.init w []
  unfold verOk
  refine CR_enter Tryd.func112 rfl Tryd.ntmps112 rfl ?_
  refine W_seq <| W_region <| RP_e rfl (ef_box st rfl rfl) ?_
  rintro _ w1 ⟨g4, rfl, hg4, hg4', st2, hx3⟩
  replace st2 : St [] w w1 [(g4, 59, [.int .i64 c, .int .i64 n])] := st2
  let a5 : Value := .pointer (some ⟨g4, 0, none⟩)
  refine RP_sg 1 [.p (.int .i64 0)] [(1, a5)] trivial ?_
  refine RP_nil <| n_then <| W_seq <| W_seq <| W_region <| RP_sg 4 [.p a5, .l 3 a5 (.int .i64 c), .p (.bool (decide (1 ≤ c))), .p (.bool (decide (1 ≤ c)))] [(1, a5), (6, .bool (decide (1 ≤ c)))] ⟨ld1 st2 nagg_3 0 rfl rfl, trivial⟩ ?_
  rcases Bool.eq_false_or_eq_true (decide (1 ≤ c)) with c6_6 | c6_6
  ·
   have c6_6p := of_decide_eq_true c6_6
   refine RP_at (m' := [(1, a5), (6, .bool true)]) (by rw [c6_6]) ?_
   refine RP_sg 5 [.p a5, .l 3 a5 (.int .i64 c), .p (.bool (decide (c ≤ 1099511627776))), .p (.bool (decide (c ≤ 1099511627776))), .p (.bool (decide (c ≤ 1099511627776)))] [(1, a5), (11, .bool (decide (c ≤ 1099511627776)))] ⟨ld1 st2 nagg_3 0 rfl rfl, trivial⟩ ?_
   rcases Bool.eq_false_or_eq_true (decide (c ≤ 1099511627776)) with c11_7 | c11_7
   ·
    have c11_7p := of_decide_eq_true c11_7
    refine RP_at (m' := [(1, a5), (11, .bool true)]) (by rw [c11_7]) ?_
    refine RP_sg 5 [.p (.pointer (some ⟨g4, 1, none⟩)), .l 3 (.pointer (some ⟨g4, 1, none⟩)) (.int .i64 n), .p (.bool (decide (0 ≤ n))), .p (.bool (decide (0 ≤ n))), .p (.bool (decide (0 ≤ n)))] [(1, a5), (16, .bool (decide (0 ≤ n)))] ⟨ld1 st2 nagg_3 0 rfl rfl, trivial⟩ ?_
    rcases Bool.eq_false_or_eq_true (decide (0 ≤ n)) with c16_8 | c16_8
    ·
     have c16_8p := of_decide_eq_true c16_8
     refine RP_at (m' := [(1, a5), (16, .bool true)]) (by rw [c16_8]) ?_
     refine RP_sg 4 [.p (.pointer (some ⟨g4, 1, none⟩)), .l 3 (.pointer (some ⟨g4, 1, none⟩)) (.int .i64 n), .p (.bool (decide (n < 8))), .p (.bool (decide (n < 8)))] [(20, .bool (decide (n < 8)))] ⟨ld1 st2 nagg_3 0 rfl rfl, trivial⟩ ?_
     refine RP_nil <| n_then <| W_cond rfl (fun c20_9 => ?_) (fun c20_9 => ?_)
     ·
      have c20_9p := of_decide_eq_true c20_9
      refine W_seq <| W_region <| RP_sg 1 [.p (.int .i64 0)] [(2, .int .i64 0)] trivial ?_
      refine RP_nil <| n_then <| W_ret <| r_then ?_
      refine ret_of (P := Tryd.prog) (fn := Tryd.f112) (m := [(2, .int .i64 0)]) (w := w1) (res1 rfl (rv_tmp rfl)) ?_
      exact ⟨by (try rw [c6_6]); (try rw [c11_7]); (try rw [c16_8]); (try rw [c20_9]); rfl, st2.ext⟩
     ·
      have c20_9p := of_decide_eq_false c20_9
      refine W_skip <| n_then <| W_seq <| W_region <| RP_sg 1 [.p (.int .i64 30)] [(2, .int .i64 30)] trivial ?_
      refine RP_nil <| n_then <| W_ret <| ret_of (P := Tryd.prog) (fn := Tryd.f112) (m := [(2, .int .i64 30)]) (w := w1) (res1 rfl (rv_tmp rfl)) ?_
      exact ⟨by (try rw [c6_6]); (try rw [c11_7]); (try rw [c16_8]); (try rw [c20_9]); rfl, st2.ext⟩
    ·
     have c16_8p := of_decide_eq_false c16_8
     refine RP_at (m' := [(1, a5), (16, .bool false)]) (by rw [c16_8]) ?_
     refine RP_sg 4 [.no, .no, .no, .p (.bool false)] [(20, .bool false)] trivial ?_
     refine RP_nil <| n_then <| W_false rfl ?_
     refine W_skip <| n_then <| W_seq <| W_region <| RP_sg 1 [.p (.int .i64 30)] [(2, .int .i64 30)] trivial ?_
     refine RP_nil <| n_then <| W_ret <| ret_of (P := Tryd.prog) (fn := Tryd.f112) (m := [(2, .int .i64 30)]) (w := w1) (res1 rfl (rv_tmp rfl)) ?_
     exact ⟨by (try rw [c6_6]); (try rw [c11_7]); (try rw [c16_8]); rfl, st2.ext⟩
   ·
    have c11_7p := of_decide_eq_false c11_7
    refine RP_at (m' := [(1, a5), (11, .bool false)]) (by rw [c11_7]) ?_
    refine RP_sg 9 [.no, .no, .no, .p (.bool false), .p (.bool false), .no, .no, .no, .p (.bool false)] [(20, .bool false)] trivial ?_
    refine RP_nil <| n_then <| W_false rfl ?_
    refine W_skip <| n_then <| W_seq <| W_region <| RP_sg 1 [.p (.int .i64 30)] [(2, .int .i64 30)] trivial ?_
    refine RP_nil <| n_then <| W_ret <| ret_of (P := Tryd.prog) (fn := Tryd.f112) (m := [(2, .int .i64 30)]) (w := w1) (res1 rfl (rv_tmp rfl)) ?_
    exact ⟨by (try rw [c6_6]); (try rw [c11_7]); rfl, st2.ext⟩
  ·
   have c6_6p := of_decide_eq_false c6_6
   refine RP_at (m' := [(1, a5), (6, .bool false)]) (by rw [c6_6]) ?_
   refine RP_sg 14 [.no, .no, .no, .p (.bool false), .p (.bool false), .no, .no, .no, .p (.bool false), .p (.bool false), .no, .no, .no, .p (.bool false)] [(20, .bool false)] trivial ?_
   refine RP_nil <| n_then <| W_false rfl ?_
   refine W_skip <| n_then <| W_seq <| W_region <| RP_sg 1 [.p (.int .i64 30)] [(2, .int .i64 30)] trivial ?_
   refine RP_nil <| n_then <| W_ret <| ret_of (P := Tryd.prog) (fn := Tryd.f112) (m := [(2, .int .i64 30)]) (w := w1) (res1 rfl (rv_tmp rfl)) ?_
   exact ⟨by (try rw [c6_6]); rfl, st2.ext⟩
def Ent.check (e : Ent) : Int := cond (decide (((e.key.size : Nat) : Int) > 16)) 20 (cond ((cond (verOk e.c e.n) (0 : Int) 30) != 0) 30 (cond (decide (((e.val.size : Nat) : Int) > 32)) 31 (cond (e.dead && !(e.val.toList == (⟨#[]⟩ : ByteArray).toList)) 32 0)))
theorem itemCheck_cr (e : Ent) (w : World) : CR Tryd.prog 63 [e.v] w fun v w' => v = .int .i64 e.check ∧ Ext [] w w' := by
  have st := St.init w []
  unfold Ent.check
  refine CR_enter Tryd.func63 rfl Tryd.ntmps63 rfl ?_
  refine W_seq <| W_region <| RP_e rfl (ef_box st rfl rfl) ?_
  rintro _ w1 ⟨g4, rfl, hg4, hg4', st2, hx3⟩
  replace st2 : St [] w w1 [(g4, 61, [.string e.key, .int .i64 e.c, .int .i64 e.n, .string e.val, .bool e.dead])] := st2
  let a5 : Value := .pointer (some ⟨g4, 0, none⟩)
  refine RP_sg 1 [.p (.int .i64 0)] [(1, a5)] trivial ?_
  refine RP_nil <| n_then <| W_seq <| W_block <| W_seq <| W_region <| RP_sg 5 [.p a5, .l 9 a5 (.string e.key), .p (.int .i64 (((e.key).size : Nat) : Int)), .p (.bool (decide ((((e.key).size : Nat) : Int) > 16))), .p (.bool (decide ((((e.key).size : Nat) : Int) > 16)))] [(1, a5), (3, .bool (decide ((((e.key).size : Nat) : Int) > 16)))] ⟨ld1 st2 nagg_9 0 rfl rfl, trivial⟩ ?_
  refine RP_nil <| n_then <| W_cond rfl (fun c3_6 => ?_) (fun c3_6 => ?_)
  ·
   have c3_6p := of_decide_eq_true c3_6
   refine W_seq <| W_region <| RP_sg 1 [.p (.int .i64 20)] [(2, .int .i64 20)] trivial ?_
   refine RP_nil <| n_then <| W_ret <| r_block <| r_then ?_
   refine ret_of (P := Tryd.prog) (fn := Tryd.f63) (m := [(2, .int .i64 20)]) (w := w1) (res1 rfl (rv_tmp rfl)) ?_
   exact ⟨by (try rw [c3_6]); rfl, st2.ext⟩
  ·
   have c3_6p := of_decide_eq_false c3_6
   refine W_seq <| W_region ?_
   let a7 : Value := .agg #[.int .i64 e.c, .int .i64 e.n]
   refine RP_sg 2 [.p (.pointer (some ⟨g4, 1, none⟩)), .l 59 (.pointer (some ⟨g4, 1, none⟩)) a7] [(1, a5), (10, a7)] ⟨ldN st2 agg_59 0 rfl rfl rfl, trivial⟩ ?_
   refine RP_e rfl (ef_call (k := 112) (args := [a7]) (checkVersion_cr _ _ _) body_112 (by kernel_rfl)) ?_
   rintro _ w8 ⟨_, rfl, rfl, hx10⟩
   have st9 := st2.call0 hx10
   refine RP_sg 2 [.p (.bool ((cond (verOk e.c e.n) (0 : Int) 30) != 0)), .p (.bool ((cond (verOk e.c e.n) (0 : Int) 30) != 0))] [(1, a5), (8, .bool ((cond (verOk e.c e.n) (0 : Int) 30) != 0))] trivial ?_
   refine RP_nil <| n_then <| W_cond rfl (fun c8_11 => ?_) (fun c8_11 => ?_)
   ·
    refine W_seq <| W_region <| RP_sg 1 [.p (.int .i64 30)] [(2, .int .i64 30)] trivial ?_
    refine RP_nil <| n_then <| W_ret <| r_block <| r_then ?_
    refine ret_of (P := Tryd.prog) (fn := Tryd.f63) (m := [(2, .int .i64 30)]) (w := w8) (res1 rfl (rv_tmp rfl)) ?_
    exact ⟨by (try rw [c3_6]); (try rw [c8_11]); rfl, st9.ext⟩
   ·
    refine W_seq <| W_region <| RP_sg 5 [.p (.pointer (some ⟨g4, 3, none⟩)), .l 9 (.pointer (some ⟨g4, 3, none⟩)) (.string e.val), .p (.int .i64 (((e.val).size : Nat) : Int)), .p (.bool (decide ((((e.val).size : Nat) : Int) > 32))), .p (.bool (decide ((((e.val).size : Nat) : Int) > 32)))] [(1, a5), (13, .bool (decide ((((e.val).size : Nat) : Int) > 32)))] ⟨ld1 st9 nagg_9 0 rfl rfl, trivial⟩ ?_
    refine RP_nil <| n_then <| W_cond rfl (fun c13_12 => ?_) (fun c13_12 => ?_)
    ·
     have c13_12p := of_decide_eq_true c13_12
     refine W_seq <| W_region <| RP_sg 1 [.p (.int .i64 31)] [(2, .int .i64 31)] trivial ?_
     refine RP_nil <| n_then <| W_ret <| r_block <| r_then ?_
     refine ret_of (P := Tryd.prog) (fn := Tryd.f63) (m := [(2, .int .i64 31)]) (w := w8) (res1 rfl (rv_tmp rfl)) ?_
     exact ⟨by (try rw [c3_6]); (try rw [c8_11]); (try rw [c13_12]); rfl, st9.ext⟩
    ·
     have c13_12p := of_decide_eq_false c13_12
     refine W_seq <| W_region <| RP_sg 3 [.p (.pointer (some ⟨g4, 4, none⟩)), .l 4 (.pointer (some ⟨g4, 4, none⟩)) (.bool e.dead), .p (.bool e.dead)] [(1, a5), (21, .bool e.dead)] ⟨ld1 st9 nagg_4 0 rfl rfl, trivial⟩ ?_
     rcases Bool.eq_false_or_eq_true (e.dead) with c21_13 | c21_13
     ·
      refine RP_at (m' := [(1, a5), (21, .bool true)]) (by rw [c21_13]) ?_
      refine RP_sg 5 [.p (.pointer (some ⟨g4, 3, none⟩)), .l 9 (.pointer (some ⟨g4, 3, none⟩)) (.string e.val), .p (.bool (!((e.val).toList == ((⟨#[]⟩ : ByteArray)).toList))), .p (.bool (!((e.val).toList == ((⟨#[]⟩ : ByteArray)).toList))), .p (.bool (!((e.val).toList == ((⟨#[]⟩ : ByteArray)).toList)))] [(18, .bool (!((e.val).toList == ((⟨#[]⟩ : ByteArray)).toList)))] ⟨ld1 st9 nagg_9 0 rfl rfl, trivial⟩ ?_
      refine RP_nil <| n_then <| W_cond rfl (fun c18_14 => ?_) (fun c18_14 => ?_)
      ·
       refine W_seq <| W_region <| RP_sg 1 [.p (.int .i64 32)] [(2, .int .i64 32)] trivial ?_
       refine RP_nil <| n_then <| W_ret <| r_block <| r_then ?_
       refine ret_of (P := Tryd.prog) (fn := Tryd.f63) (m := [(2, .int .i64 32)]) (w := w8) (res1 rfl (rv_tmp rfl)) ?_
       exact ⟨by (try rw [c3_6]); (try rw [c8_11]); (try rw [c13_12]); (try rw [c21_13]); (try rw [c18_14]); rfl, st9.ext⟩
      ·
       refine W_skip <| n_block <| n_then <| W_seq <| W_region <| RP_sg 1 [.p (.int .i64 0)] [(2, .int .i64 0)] trivial ?_
       refine RP_nil <| n_then <| W_ret <| ret_of (P := Tryd.prog) (fn := Tryd.f63) (m := [(2, .int .i64 0)]) (w := w8) (res1 rfl (rv_tmp rfl)) ?_
       exact ⟨by (try rw [c3_6]); (try rw [c8_11]); (try rw [c13_12]); (try rw [c21_13]); (try rw [c18_14]); rfl, st9.ext⟩
     ·
      refine RP_at (m' := [(1, a5), (21, .bool false)]) (by rw [c21_13]) ?_
      refine RP_sg 5 [.no, .no, .no, .p (.bool false), .p (.bool false)] [(18, .bool false)] trivial ?_
      refine RP_nil <| n_then <| W_false rfl ?_
      refine W_skip <| n_block <| n_then <| W_seq <| W_region <| RP_sg 1 [.p (.int .i64 0)] [(2, .int .i64 0)] trivial ?_
      refine RP_nil <| n_then <| W_ret <| ret_of (P := Tryd.prog) (fn := Tryd.f63) (m := [(2, .int .i64 0)]) (w := w8) (res1 rfl (rv_tmp rfl)) ?_
      exact ⟨by (try rw [c3_6]); (try rw [c8_11]); (try rw [c13_12]); (try rw [c21_13]); rfl, st9.ext⟩
end Go.Proofs.YtcopemgkjbaaeaaDoor
namespace Go.Proofs.YtcopemgkjbaaeaaDoor
set_option linter.all false
open Go.RowKit
def so : Option Addr → Nat
  | some a => a.off
  | none => 0
def InS (w : World) (b : Option Addr) (cs : List Value) : Prop :=
  cs = [] ∨ (b = some ⟨sp b, so b, none⟩ ∧ sp b < w.heap.size ∧ ∀ (j : Nat) (u : Value), cs[j]? = some u → w.cell? ⟨sp b, so b + j, none⟩ = some u)
theorem cell_block {w w' : World} {g o : Nat} (h : w'.heap[g]? = w.heap[g]?) : w'.cell? ⟨g, o, none⟩ = w.cell? ⟨g, o, none⟩ := by
  simp only [World.cell?, h]
section
variable {P : Program} {m : SM} {w w' w0 : World} {X : List Nat} {dst : Option Nat} {ty : TypeId} {pos : String} {af : Array Edge} {gd : Option (Nat × Bool)} {b : Option Addr} {cs : List Value}
theorem InS.ext (h : InS w b cs) (hx : Ext X w w') (hX : sp b ∉ X) : InS w' b cs := by
  rcases h with h | ⟨h1, h2, h3⟩
  · exact .inl h
  · refine .inr ⟨h1, Nat.lt_of_lt_of_le h2 hx.size, fun j u hu => ?_⟩
    rw [cell_block (hx.block _ h2 hX)]
    exact h3 j u hu
theorem InS.ext0 (h : InS w b cs) (hx : Ext [] w w') : InS w' b cs := h.ext hx (by simp)
theorem InS.some_ (h : InS w b cs) (hc : 0 < cs.length) : b = some ⟨sp b, so b, none⟩ := by
  rcases h with rfl | h
  · simp at hc
  · exact h.1
theorem InS.of_own {base : Nat} {e : TypeId} {size k c : Nat} (h : w.ownsRow base e size (.slice b k c) k cs) : InS w b cs := by
  rcases Nat.eq_zero_or_pos k with rfl | hk
  · exact .inl (List.eq_nil_of_length_eq_zero (by have := h.1; rw [Nat.zero_mul] at this; exact this))
  · obtain ⟨h1, cur, h2, h3⟩ := ownsRow.some_ h hk
    have hs : so b = 0 := by rw [h1]; rfl
    refine .inr ⟨by rw [hs]; exact h1, (Array.getElem?_eq_some_iff.1 h2).1, fun j u hu => ?_⟩
    have hB : Blk w (sp b) e cur := h2
    rw [hs, Nat.zero_add, hB.cell j, ← hu, ← h3, List.getElem?_take]
    have h4 : j < k * size := by
      have := (List.getElem?_eq_some_iff.1 hu).1
      have := h.1
      omega
    rw [if_pos h4]; simp
theorem ev_indexI {t e : TypeId} {size k c : Nat} {x ix : Operand} {i : Nat} (hT : IdxT P t e size) (hx : opv m x = some (.slice b k c)) (hi : opv m ix = some (.int .i64 (i : Nat)))
    (hb : b = some ⟨sp b, so b, none⟩) (hk : i < k) : Ev P m ⟨dst, .indexAddr t x ix, ty, pos, af, gd⟩ w (.pointer (some ⟨sp b, so b + i * size, none⟩)) := fun ρ hρ => by
  simp only [execOp, hρ.get hx, hρ.get hi]
  rw [hb]
  have hs := hT.s w
  simp [Instr.indexAt, asIntOf, run_underlying hT.u, hk, hs, Addr.add, sp, so]
theorem run_loadIn {g o : Nat} : ∀ (vs : List Value) (j : Nat) (acc : Array Value), (∀ (q : Nat) (u : Value), vs[q]? = some u → w.cell? ⟨g, o + (j + q), none⟩ = some u) → (loadCellsFrom ⟨g, o, none⟩ j vs.length acc).run P w = .ok (acc ++ vs.toArray) w
  | [], j, acc, _ => by simp [loadCellsFrom]
  | v :: vs, j, acc, h => by
    have e : ((⟨g, o, none⟩ : Addr).add j) = ⟨g, o + j, none⟩ := by unfold Addr.add; split <;> simp_all
    have hc : w.cell? ((⟨g, o, none⟩ : Addr).add j) = some v := by rw [e]; simpa using h 0 v rfl
    simp only [List.length_cons, loadCellsFrom, load]
    simp only [Sem.run_bind, Sem.run, hc, Result.andThen_ok]
    rw [run_loadIn vs (j + 1) _ (fun q u hu => by rw [show j + 1 + q = j + (q + 1) from by omega]; exact h (q + 1) u (by simpa using hu))]
    simp
theorem InS.loadN {vs : List Value} {o q : Nat} {t : TypeId} (hA : Agg P t q) (hin : InS w b cs) (hv : (cs.drop o).take q = vs) (hl : vs.length = q) (hq : 0 < q) :
    (Instr.loadAt t (.pointer (some ⟨sp b, so b + o, none⟩))).run P w = .ok (.agg vs.toArray) w := by
  have hlen : o + q ≤ cs.length := by
    have := congrArg List.length hv
    simp only [List.length_take, List.length_drop] at this
    omega
  rcases hin with rfl | ⟨_, _, h⟩
  · simp at hlen; omega
  · have hr := run_loadIn (P := P) (w := w) (g := sp b) (o := so b + o) vs 0 #[] (fun k u hu => by
      rw [Nat.zero_add, Nat.add_assoc]
      refine h (o + k) u ?_
      rw [← hv, List.getElem?_take] at hu
      split at hu
      · rw [List.getElem?_drop] at hu; exact hu
      · cases hu)
    rw [hl] at hr
    simp only [Instr.loadAt, Instr.sureAddr, loadVar, loadCells]
    simp [hA.1 w, hA.2 w, hr]
theorem InS.load1 {o : Nat} {t : TypeId} {v : Value} (hA : NAgg P t) (hin : InS w b cs) (hv : cs[o]? = some v) :
    (Instr.loadAt t (.pointer (some ⟨sp b, so b + o, none⟩))).run P w = .ok v w := by
  rcases hin with rfl | ⟨_, _, h⟩
  · simp at hv
  · have hc := h o v hv
    simp [Instr.loadAt, Instr.sureAddr, loadVar, hA w, load, Sem.run, hc]
theorem InS.load1f {o k : Nat} {t : TypeId} {v : Value} (hA : NAgg P t) (hin : InS w b cs) (hv : cs[o + k]? = some v) :
    (Instr.loadAt t (.pointer (some ⟨sp b, so b + o + k, none⟩))).run P w = .ok v w := by
  rw [Nat.add_assoc]; exact InS.load1 hA hin hv
end
def Ent.cells (e : Ent) : List Value := [.string e.key, .int .i64 e.c, .int .i64 e.n, .string e.val, .bool e.dead]
def entCells (l : List Ent) : List Value := l.flatMap Ent.cells
theorem entCells_len : ∀ l : List Ent, (entCells l).length = l.length * 5
  | [] => rfl
  | e :: l => by have := entCells_len l; simp only [entCells, List.flatMap_cons, List.length_append, List.length_cons, Ent.cells, List.length_nil] at *; omega
theorem entCells_at : ∀ {l : List Ent} {e : Ent} {n : Nat}, l[n]? = some e → ((entCells l).drop (n * 5)).take 5 = e.cells
  | [], _, _, h => by simp at h
  | a :: l, e, 0, h => by simp at h; subst h; simp [entCells, Ent.cells]
  | a :: l, e, n + 1, h => by
    have ih := entCells_at (l := l) (e := e) (n := n) (by simpa using h)
    rw [← ih]
    simp only [entCells, List.flatMap_cons, Ent.cells]
    rw [show (n + 1) * 5 = 5 + n * 5 from by omega, ← List.drop_drop]
    rfl
theorem entCells_f {l : List Ent} {e : Ent} {n k : Nat} {v : Value} (h : l[n]? = some e) (hk : k < 5) (hv : e.cells[k]? = some v) : (entCells l)[n * 5 + k]? = some v := by
  have := entCells_at h
  rw [← this, List.getElem?_take, if_pos hk, List.getElem?_drop] at hv
  exact hv
theorem entCells_0 {l : List Ent} {e : Ent} {n : Nat} {v : Value} (h : l[n]? = some e) (hv : e.cells[0]? = some v) : (entCells l)[n * 5]? = some v := entCells_f (k := 0) h (by decide) hv
theorem InS.loadV {P : Program} {w : World} {b : Option Addr} {t : TypeId} {l : List Ent} {e : Ent} {n : Nat} (hA : Agg P t 2) (hin : InS w b (entCells l)) (he : l[n]? = some e) :
    (Instr.loadAt t (.pointer (some ⟨sp b, so b + n * 5 + 1, none⟩))).run P w = .ok (.agg #[.int .i64 e.c, .int .i64 e.n]) w := by
  rw [Nat.add_assoc]
  refine InS.loadN (vs := [.int .i64 e.c, .int .i64 e.n]) hA hin ?_ rfl (by decide)
  have h := entCells_at he
  rw [← List.drop_drop]
  have h2 : ((((entCells l).drop (n * 5)).take 5).drop 1).take 2 = [.int .i64 e.c, .int .i64 e.n] := by rw [h]; rfl
  rw [List.drop_take, List.take_take] at h2
  exact h2
theorem IsT.drew {w : World} {p : Option Addr} {t : T} (h : IsT w p t) : IsT w.drew p t := IsT.heap (w := w) (w' := w.drew) rfl h
theorem check_key {e : Ent} (h : e.check = 0) : e.key.size ≤ 16 := by
  unfold Ent.check at h
  rcases Bool.eq_false_or_eq_true (decide (((e.key.size : Nat) : Int) > 16)) with hc | hc
  · rw [hc] at h; cases h
  · have := of_decide_eq_false hc; omega
structure Sto (w : World) (gs bm bt : Nat) (p : Option Addr) (node clock j : Int) (tt : T) : Prop where
  blk : Blk w gs 129 #[.int .i64 node, .int .i64 clock, .pointer (some ⟨bm, 0, none⟩), .pointer (some ⟨bt, 0, none⟩)]
  tr : Tr w bt bm j p
  ist : IsT w p tt
theorem Tr.ext {w w' : World} {bt bm : Nat} {j : Int} {p : Option Addr} {X : List Nat} (h : Tr w bt bm j p) (hx : Ext X w w') (hd : bt ∉ X ∧ bm ∉ X) : Tr w' bt bm j p := ⟨h.t.ext hx hd.1, h.m.ext hx hd.2⟩
theorem Tr.ext1 {w w' : World} {bt bm : Nat} {j : Int} {p : Option Addr} {g : Nat} {t : TypeId} {cs : Array Value} (h : Tr w bt bm j p) (hx : Ext [g] w w') (hb : Blk w g t cs) (h1 : t ≠ 179) (h2 : t ≠ 205) : Tr w' bt bm j p :=
  h.ext hx ⟨by simpa using (hb.ne_ h.t h1).symm, by simpa using (hb.ne_ h.m h2).symm⟩
theorem Tr.drew {w : World} {bt bm : Nat} {j : Int} {p : Option Addr} (h : Tr w bt bm j p) : Tr w.drew bt bm j p := ⟨h.t, h.m⟩
theorem St.apart {X : List Nat} {w0 w : World} {M : List (Nat × TypeId × List Value)} (st : St X w0 w M) {bt bm : Nat} {j : Int} {p : Option Addr} (h : Tr w bt bm j p) (ht : M.all (fun x => x.2.1 != 179 && x.2.1 != 205) = true) : ∀ g ∈ M.map (·.1), g ∉ [bt, bm] := by
  intro g hg hm
  obtain ⟨x, hx, rfl⟩ := List.mem_map.1 hg
  have h1 := List.all_eq_true.1 ht x hx
  simp only [Bool.and_eq_true, bne_iff_ne, ne_eq] at h1
  have hb := st.blk x hx
  simp only [List.mem_cons, List.not_mem_nil, or_false] at hm
  rcases hm with hm | hm
  · exact hb.ne_ h.t h1.1 hm
  · exact hb.ne_ h.m h1.2 hm
end Go.Proofs.YtcopemgkjbaaeaaDoor
