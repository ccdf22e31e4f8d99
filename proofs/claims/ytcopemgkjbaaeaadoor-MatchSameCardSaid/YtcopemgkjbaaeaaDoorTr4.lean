/-
  tree.put, New, NewMeter, Len.
-/
import Derived.Test.YtcopemgkjbaaeaaDoorTr3
namespace Go.Proofs.YtcopemgkjbaaeaaDoor
set_option linter.all false
open Go.RowKit

def kgt (a b : ByteArray) : Bool := !(Op.bytesLess a.toList b.toList || a.toList == b.toList)
def T.put (e : Ent) : T → T
  | .nil => .node e .nil .nil
  | .node x l r => cond (klt e.key x.key) (T.even x (T.put e l) r) (cond (kgt e.key x.key) (T.even x l (T.put e r)) (.node e l r))
def T.putJ (e : Ent) : T → Nat
  | .nil => 0
  | .node x l r => cond (klt e.key x.key) (T.putJ e l + T.evenJ x (T.put e l) r) (cond (kgt e.key x.key) (T.putJ e r + T.evenJ x l (T.put e r)) (T.joins l r))
theorem T.even_size (e : Ent) (l r : T) : (T.even e l r).size ≤ l.size + r.size + 1 := by
  unfold T.even
  split
  · split
    · simp [T.size]
    · split
      · simp only [T.size]; omega
      · split <;> simp only [T.size] <;> omega
  · split
    · split
      · simp [T.size]
      · split
        · simp only [T.size]; omega
        · split <;> simp only [T.size] <;> omega
    · simp only [T.size]; omega
theorem T.put_size (e : Ent) : ∀ t : T, (T.put e t).size ≤ t.size + 1
  | .nil => by simp [T.put, T.size]
  | .node x l r => by
    have h1 := T.put_size e l; have h2 := T.put_size e r
    have h3 := T.even_size x (T.put e l) r; have h4 := T.even_size x l (T.put e r)
    unfold T.put
    cases klt e.key x.key <;> cases kgt e.key x.key <;> simp only [cond_true, cond_false, T.size] at * <;> omega

theorem over_cr0 {w : World} {bt bm : Nat} {j : Int} {p pl pr : Option Addr} {gx : Nat} {e : Ent} {s : Tal} {ql qr : Option Addr} {m0 h0 : Int} {l r : T}
    (hT : Tr w bt bm j p) (hx : Blk w gx 181 (nodeCells e s ql qr m0 h0)) (hl : IsT w pl l) (hr : IsT w pr r) (hs : l.size + r.size ≤ 1000000) :
    CR Tryd.prog 147 [.pointer (some ⟨bt, 0, none⟩), .pointer (some ⟨gx, 0, none⟩), .pointer pl, .pointer pr] w fun v w' =>
      ∃ g, v = .pointer (some ⟨g, 0, none⟩) ∧ IsT w' (some ⟨g, 0, none⟩) (.node e l r) ∧ Tr w' bt bm (addj j (T.joins l r)) p ∧ Ext [bm] w w' :=
  (over_cr hT hx hl hr hs).mono fun _ _ ⟨g, h1, _, h2⟩ => ⟨g, h1, h2⟩

theorem put_cr {bt bm : Nat} {p : Option Addr} {gx : Nat} {e : Ent} {s : Tal} {ql qr : Option Addr} {m0 h0 : Int} : ∀ (t : T) {w : World} {j : Int} {pt : Option Addr}
    (_ : Tr w bt bm j p) (_ : Blk w gx 181 (nodeCells e s ql qr m0 h0)) (_ : IsT w pt t) (_ : t.size ≤ 10000),
    CR Tryd.prog 133 [.pointer (some ⟨bt, 0, none⟩), .pointer pt, .pointer (some ⟨gx, 0, none⟩)] w fun v w' =>
      ∃ g, v = .pointer (some ⟨g, 0, none⟩) ∧ IsT w' (some ⟨g, 0, none⟩) (T.put e t) ∧ Tr w' bt bm (addj j (T.putJ e t)) p ∧ Ext [bm] w w'
  | .nil, w, j, pt, hT, hx, ht, hs => by
    have hnt : bt ∉ [bm] := by simpa using hT.ne
    have hnx : gx ∉ [bm] := by simpa using (hx.ne_ hT.m (by decide))
    have hno := NoNode.meter hT.m
    have st := (St.init w [bm]).add hT.m (by simp)
    have htb := hT.t
    obtain rfl : pt = none := ht
    unfold T.put T.putJ
    refine CR_enter Tryd.func133 rfl Tryd.ntmps133 rfl ?_
    refine W_seq ?_
    refine W_region ?_
    refine RP_seg 1 [.p (.pointer none)] [0, 1, 2] (by kernel_rfl) (fun _ => by kernel_rfl) (by kernel_rfl : pick _ _ = some [(0, .pointer (some ⟨bt, 0, none⟩)), (1, .pointer none), (2, .pointer (some ⟨gx, 0, none⟩))]) (trivial) ?_
    refine RP_pick [0, 1, 2] (by kernel_rfl : pick _ _ = some [(0, .pointer (some ⟨bt, 0, none⟩)), (1, .pointer none), (2, .pointer (some ⟨gx, 0, none⟩))]) ?_
    refine RP_nil ?_
    refine n_then ?_
    refine W_seq ?_
    refine W_block ?_
    refine W_seq ?_
    refine W_region ?_
    refine RP_seg 3 [.p (.pointer none), .p (.bool true), .p (.bool true)] [0, 1, 2, 7] (by kernel_rfl) (fun _ => by kernel_rfl) (by kernel_rfl : pick _ _ = some [(0, .pointer (some ⟨bt, 0, none⟩)), (1, .pointer none), (2, .pointer (some ⟨gx, 0, none⟩)), (7, .bool true)]) (trivial) ?_
    refine RP_pick [0, 1, 2, 7] (by kernel_rfl : pick _ _ = some [(0, .pointer (some ⟨bt, 0, none⟩)), (1, .pointer none), (2, .pointer (some ⟨gx, 0, none⟩)), (7, .bool true)]) ?_
    refine RP_nil ?_
    refine n_then ?_
    refine W_true rfl ?_
    refine W_seq ?_
    refine W_region ?_
    refine RP_seg 2 [.p (.pointer (some ⟨bt, 0, none⟩)), .p (.pointer (some ⟨gx, 0, none⟩))] [10, 11] (by kernel_rfl) (fun _ => by kernel_rfl) (by kernel_rfl : pick _ _ = some [(10, .pointer (some ⟨bt, 0, none⟩)), (11, .pointer (some ⟨gx, 0, none⟩))]) (trivial) ?_
    refine RP_e rfl (ef_call (k := 147) (args := [.pointer (some ⟨bt, 0, none⟩), .pointer (some ⟨gx, 0, none⟩), .pointer none, .pointer none]) (over_cr0 ⟨htb.ext st.ext hnt, st.get 0 rfl⟩ (hx.ext st.ext hnx) (show IsT _ none T.nil from rfl) (show IsT _ none T.nil from rfl) (by (try simp only [T.size] at *) <;> omega)) body_147 (by kernel_rfl)) ?_
    rintro _ w1 ⟨_, rfl, o1, rfl, hi1, ⟨-, hbj⟩, hx3⟩
    have st2 := st.turned 0 rfl (.inl (by simp)) hbj hx3
    have st4 : St [bm] w w1 [(bm, 205, [.int .i64 (addj (j) (T.joins .nil .nil))])] := st2
    refine RP_seg 1 [.p (.pointer (some ⟨o1, 0, none⟩))] [6] (by kernel_rfl) (fun _ => by kernel_rfl) (by kernel_rfl : pick _ _ = some [(6, .pointer (some ⟨o1, 0, none⟩))]) (trivial) ?_
    refine RP_pick [6] (by kernel_rfl : pick _ _ = some [(6, .pointer (some ⟨o1, 0, none⟩))]) ?_
    refine RP_nil ?_
    refine n_then ?_
    refine W_ret ?_
    refine r_block <| r_then ?_
    have hbe := st4.get 0 rfl
    try simp only [addj_add] at hbe
    refine ret_of (P := Tryd.prog) (fn := Tryd.f133) (m := [(6, .pointer (some ⟨o1, 0, none⟩))]) (w := w1) (res1 rfl (rv_tmp rfl)) ?_
    -- return 0: .pointer (some ⟨o1, 0, none⟩)
    exact ⟨o1, rfl, hi1, ⟨htb.ext st4.ext hnt, hbe⟩, st4.ext⟩
  | .node x l r, w, j, pt, hT, hx, ht, hs => by
    have ihl := fun {w j pt} => put_cr (bt := bt) (bm := bm) (p := p) (gx := gx) (e := e) (s := s) (ql := ql) (qr := qr) (m0 := m0) (h0 := h0) l (w := w) (j := j) (pt := pt)
    have ihr := fun {w j pt} => put_cr (bt := bt) (bm := bm) (p := p) (gx := gx) (e := e) (s := s) (ql := ql) (qr := qr) (m0 := m0) (h0 := h0) r (w := w) (j := j) (pt := pt)
    have hnt : bt ∉ [bm] := by simpa using hT.ne
    have hnx : gx ∉ [bm] := by simpa using (hx.ne_ hT.m (by decide))
    have hno := NoNode.meter hT.m
    have st := (St.init w [bm]).add hT.m (by simp)
    have htb := hT.t
    obtain ⟨gn, pl, pr, rfl, hbn, hl, hr⟩ := ht
    have hnn : gn ∉ [bm] := by simpa using (hbn.ne_ hT.m (by decide))
    unfold T.put T.putJ
    rcases Bool.eq_false_or_eq_true (klt e.key x.key) with hlt | hlt
    · rw [hlt]
      simp only [cond_true]
      unfold klt at hlt
      refine CR_enter Tryd.func133 rfl Tryd.ntmps133 rfl ?_
      refine W_seq ?_
      refine W_region ?_
      refine RP_seg 1 [.p (.pointer none)] [0, 1, 2] (by kernel_rfl) (fun _ => by kernel_rfl) (by kernel_rfl : pick _ _ = some [(0, .pointer (some ⟨bt, 0, none⟩)), (1, .pointer (some ⟨gn, 0, none⟩)), (2, .pointer (some ⟨gx, 0, none⟩))]) (trivial) ?_
      refine RP_pick [0, 1, 2] (by kernel_rfl : pick _ _ = some [(0, .pointer (some ⟨bt, 0, none⟩)), (1, .pointer (some ⟨gn, 0, none⟩)), (2, .pointer (some ⟨gx, 0, none⟩))]) ?_
      refine RP_nil ?_
      refine n_then ?_
      refine W_seq ?_
      refine W_block ?_
      refine W_seq ?_
      refine W_region ?_
      refine RP_seg 3 [.p (.pointer (some ⟨gn, 0, none⟩)), .p (.bool false), .p (.bool false)] [0, 1, 2, 7] (by kernel_rfl) (fun _ => by kernel_rfl) (by kernel_rfl : pick _ _ = some [(0, .pointer (some ⟨bt, 0, none⟩)), (1, .pointer (some ⟨gn, 0, none⟩)), (2, .pointer (some ⟨gx, 0, none⟩)), (7, .bool false)]) (trivial) ?_
      refine RP_pick [0, 1, 2, 7] (by kernel_rfl : pick _ _ = some [(0, .pointer (some ⟨bt, 0, none⟩)), (1, .pointer (some ⟨gn, 0, none⟩)), (2, .pointer (some ⟨gx, 0, none⟩)), (7, .bool false)]) ?_
      refine RP_nil ?_
      refine n_then ?_
      refine W_false rfl ?_
      refine W_seq ?_
      -- region 3 draws: [(1, 0), (1, 1), (1, 2), (1, 3), (1, 4), (1, 5), (1, 6), (1, 7), (1, 8), (1, 9)]
      refine W_regionS (fun w' => Blk w' gx 181 [.string e.key, .string e.key, .int .i64 e.c, .int .i64 e.n, .string e.val, .bool e.dead, .int .i64 e.tal.k, .int .u64 e.tal.a, .int .u64 e.tal.b, .int .i64 s.k, .int .u64 s.a, .int .u64 s.b, .pointer ql, .pointer qr, .int .i64 m0, .int .i64 h0].toArray ∧ Blk w' gn 181 [.string x.key, .string x.key, .int .i64 x.c, .int .i64 x.n, .string x.val, .bool x.dead, .int .i64 x.tal.k, .int .u64 x.tal.a, .int .u64 x.tal.b, .int .i64 ((T.node x l r).sum.k), .int .u64 ((T.node x l r).sum.a), .int .u64 ((T.node x l r).sum.b), .pointer pl, .pointer pr, .int .i64 (((T.node x l r).size : Nat) : Int), .int .i64 (((T.node x l r).high : Nat) : Int)].toArray) [(1, 0), (1, 1), (1, 2), (1, 3), (1, 4), (1, 5), (1, 6), (1, 7), (1, 8), (1, 9)] 10 (by kernel_rfl) (by kernel_rfl) ?_
      have st1 := st.drew
      refine RS_seg 10 [.p (.pointer (some ⟨gx, 0, none⟩)), .p (.pointer (some ⟨gx, 0, none⟩)), .p (.pointer (some ⟨gx, 0, none⟩)), .l 9 (.pointer (some ⟨gx, 0, none⟩)) (.string e.key), .p (.pointer (some ⟨gn, 0, none⟩)), .p (.pointer (some ⟨gn, 0, none⟩)), .p (.pointer (some ⟨gn, 0, none⟩)), .l 9 (.pointer (some ⟨gn, 0, none⟩)) (.string x.key), .p (.bool (Op.bytesLess (e.key).toList (x.key).toList)), .p (.bool (Op.bytesLess (e.key).toList (x.key).toList))] [0, 1, 2, 13] (by kernel_rfl) (by kernel_rfl) (⟨hx.ext st1.ext hnx, hbn.ext st1.ext hnn⟩) (by kernel_rfl) (fun _ => by kernel_rfl) (by kernel_rfl : pick _ _ = some [(0, .pointer (some ⟨bt, 0, none⟩)), (1, .pointer (some ⟨gn, 0, none⟩)), (2, .pointer (some ⟨gx, 0, none⟩)), (13, .bool (Op.bytesLess (e.key).toList (x.key).toList))]) (fun _ hS => ⟨ld1b (hS.1) nagg_9 rfl, ld1b (hS.2) nagg_9 rfl, trivial⟩) ?_
      refine RS_pick [0, 1, 2, 13] (by kernel_rfl : pick _ _ = some [(0, .pointer (some ⟨bt, 0, none⟩)), (1, .pointer (some ⟨gn, 0, none⟩)), (2, .pointer (some ⟨gx, 0, none⟩)), (13, .bool (Op.bytesLess (e.key).toList (x.key).toList))]) ?_
      refine RS_nil ?_
      refine n_then ?_
      refine W_true' rfl hlt ?_
      refine W_seq ?_
      -- region 4 draws: [(1, 0), (1, 1), (1, 2), (1, 3), (1, 4), (1, 5), (1, 6), (1, 7), (1, 9), (1, 10), (1, 11), (1, 12), (2, 8), (2, 13), (0, 14)]
      refine W_regionS (fun w' => Blk w' gn 181 [.string x.key, .string x.key, .int .i64 x.c, .int .i64 x.n, .string x.val, .bool x.dead, .int .i64 x.tal.k, .int .u64 x.tal.a, .int .u64 x.tal.b, .int .i64 ((T.node x l r).sum.k), .int .u64 ((T.node x l r).sum.a), .int .u64 ((T.node x l r).sum.b), .pointer pl, .pointer pr, .int .i64 (((T.node x l r).size : Nat) : Int), .int .i64 (((T.node x l r).high : Nat) : Int)].toArray) [(1, 0), (1, 1), (1, 2), (1, 3), (1, 4), (1, 5), (1, 6), (1, 7), (1, 9), (1, 10), (1, 11), (1, 12), (2, 8), (2, 13), (0, 14)] 15 (by kernel_rfl) (by kernel_rfl) ?_
      have st2 := st1.drew
      refine RS_seg 12 [.p (.pointer (some ⟨bt, 0, none⟩)), .p (.pointer (some ⟨gn, 0, none⟩)), .p (.pointer (some ⟨bt, 0, none⟩)), .p (.pointer (some ⟨gn, 0, none⟩)), .p (.pointer (some ⟨gn, 0, none⟩)), .p (.pointer (some ⟨gn, 12, none⟩)), .l 177 (.pointer (some ⟨gn, 12, none⟩)) (.pointer pl), .p (.pointer (some ⟨gx, 0, none⟩)), .p (.pointer (some ⟨gn, 0, none⟩)), .p (.pointer (some ⟨gn, 0, none⟩)), .p (.pointer (some ⟨gn, 13, none⟩)), .l 177 (.pointer (some ⟨gn, 13, none⟩)) (.pointer pr)] [23, 24, 25, 29, 30, 35] (by kernel_rfl) (by kernel_rfl) (hbn.ext st2.ext hnn) (by kernel_rfl) (fun _ => by kernel_rfl) (by kernel_rfl : pick _ _ = some [(23, .pointer (some ⟨bt, 0, none⟩)), (24, .pointer (some ⟨gn, 0, none⟩)), (25, .pointer (some ⟨bt, 0, none⟩)), (29, .pointer pl), (30, .pointer (some ⟨gx, 0, none⟩)), (35, .pointer pr)]) (fun _ hS => ⟨ld1b (hS) nagg_177 rfl, ld1b (hS) nagg_177 rfl, trivial⟩) ?_
      refine RS_e rfl rfl (ef_call (k := 133) (args := [.pointer (some ⟨bt, 0, none⟩), .pointer pl, .pointer (some ⟨gx, 0, none⟩)]) (ihl ⟨htb.ext st2.ext hnt, st2.get 0 rfl⟩ (hx.ext st2.ext hnx) (hl.to st2.ext hno) (by (try simp only [T.size] at *) <;> omega)) body_133 (by kernel_rfl)) ?_
      rintro _ w3 ⟨_, rfl, o1, rfl, hi1, ⟨-, hbj⟩, hx5⟩
      have st4 := st2.turned 0 rfl (.inl (by simp)) hbj hx5
      have st6 : St [bm] w w3 [(bm, 205, [.int .i64 (addj (j) (T.putJ e l))])] := st4
      refine ⟨hbn.ext st6.ext hnn, ?_⟩
      refine RS_e rfl rfl (ef_call (k := 148) (args := [.pointer (some ⟨bt, 0, none⟩), .pointer (some ⟨gn, 0, none⟩), .pointer (some ⟨o1, 0, none⟩), .pointer pr]) (even_cr ⟨htb.ext st6.ext hnt, st6.get 0 rfl⟩ (hbn.ext st6.ext hnn) hi1 (hr.to st6.ext hno) (by have := T.put_size e l; (try simp only [T.size] at *) <;> omega)) body_148 (by kernel_rfl)) ?_
      rintro _ w7 ⟨_, rfl, o2, rfl, hi2, ⟨-, hbj⟩, hx9⟩
      have st8 := st6.turned 0 rfl (.inl (by simp)) hbj hx9
      replace hi1 := hi1.to hx9 (NoNode.meter (st6.get 0 rfl))
      have st10 : St [bm] w w7 [(bm, 205, [.int .i64 (addj (addj (j) (T.putJ e l)) (T.evenJ x (T.put e l) r))])] := st8
      refine ⟨hbn.ext st10.ext hnn, ?_⟩
      refine RS_segP 1 [.p (.pointer (some ⟨o2, 0, none⟩))] [6] (by kernel_rfl) (by kernel_rfl) (by kernel_rfl) (fun _ => by kernel_rfl) (by kernel_rfl : pick _ _ = some [(6, .pointer (some ⟨o2, 0, none⟩))]) (fun _ => trivial) ?_
      refine RS_pick [6] (by kernel_rfl : pick _ _ = some [(6, .pointer (some ⟨o2, 0, none⟩))]) ?_
      refine RS_nil ?_
      refine n_then ?_
      refine W_ret ?_
      refine r_block <| r_then ?_
      have hbe := st10.get 0 rfl
      try simp only [addj_add] at hbe
      refine ret_of (P := Tryd.prog) (fn := Tryd.f133) (m := [(6, .pointer (some ⟨o2, 0, none⟩))]) (w := w7) (res1 rfl (rv_tmp rfl)) ?_
      -- return 0: .pointer (some ⟨o2, 0, none⟩)
      exact ⟨o2, rfl, hi2, ⟨htb.ext st10.ext hnt, hbe⟩, st10.ext⟩
    · rw [hlt]
      unfold klt at hlt
      rcases Bool.eq_false_or_eq_true (kgt e.key x.key) with hgt | hgt
      · rw [hgt]
        simp only [cond_true, cond_false]
        unfold kgt at hgt
        refine CR_enter Tryd.func133 rfl Tryd.ntmps133 rfl ?_
        refine W_seq ?_
        refine W_region ?_
        refine RP_seg 1 [.p (.pointer none)] [0, 1, 2] (by kernel_rfl) (fun _ => by kernel_rfl) (by kernel_rfl : pick _ _ = some [(0, .pointer (some ⟨bt, 0, none⟩)), (1, .pointer (some ⟨gn, 0, none⟩)), (2, .pointer (some ⟨gx, 0, none⟩))]) (trivial) ?_
        refine RP_pick [0, 1, 2] (by kernel_rfl : pick _ _ = some [(0, .pointer (some ⟨bt, 0, none⟩)), (1, .pointer (some ⟨gn, 0, none⟩)), (2, .pointer (some ⟨gx, 0, none⟩))]) ?_
        refine RP_nil ?_
        refine n_then ?_
        refine W_seq ?_
        refine W_block ?_
        refine W_seq ?_
        refine W_region ?_
        refine RP_seg 3 [.p (.pointer (some ⟨gn, 0, none⟩)), .p (.bool false), .p (.bool false)] [0, 1, 2, 7] (by kernel_rfl) (fun _ => by kernel_rfl) (by kernel_rfl : pick _ _ = some [(0, .pointer (some ⟨bt, 0, none⟩)), (1, .pointer (some ⟨gn, 0, none⟩)), (2, .pointer (some ⟨gx, 0, none⟩)), (7, .bool false)]) (trivial) ?_
        refine RP_pick [0, 1, 2, 7] (by kernel_rfl : pick _ _ = some [(0, .pointer (some ⟨bt, 0, none⟩)), (1, .pointer (some ⟨gn, 0, none⟩)), (2, .pointer (some ⟨gx, 0, none⟩)), (7, .bool false)]) ?_
        refine RP_nil ?_
        refine n_then ?_
        refine W_false rfl ?_
        refine W_seq ?_
        -- region 3 draws: [(1, 0), (1, 1), (1, 2), (1, 3), (1, 4), (1, 5), (1, 6), (1, 7), (1, 8), (1, 9)]
        refine W_regionS (fun w' => Blk w' gx 181 [.string e.key, .string e.key, .int .i64 e.c, .int .i64 e.n, .string e.val, .bool e.dead, .int .i64 e.tal.k, .int .u64 e.tal.a, .int .u64 e.tal.b, .int .i64 s.k, .int .u64 s.a, .int .u64 s.b, .pointer ql, .pointer qr, .int .i64 m0, .int .i64 h0].toArray ∧ Blk w' gn 181 [.string x.key, .string x.key, .int .i64 x.c, .int .i64 x.n, .string x.val, .bool x.dead, .int .i64 x.tal.k, .int .u64 x.tal.a, .int .u64 x.tal.b, .int .i64 ((T.node x l r).sum.k), .int .u64 ((T.node x l r).sum.a), .int .u64 ((T.node x l r).sum.b), .pointer pl, .pointer pr, .int .i64 (((T.node x l r).size : Nat) : Int), .int .i64 (((T.node x l r).high : Nat) : Int)].toArray) [(1, 0), (1, 1), (1, 2), (1, 3), (1, 4), (1, 5), (1, 6), (1, 7), (1, 8), (1, 9)] 10 (by kernel_rfl) (by kernel_rfl) ?_
        have st1 := st.drew
        refine RS_seg 10 [.p (.pointer (some ⟨gx, 0, none⟩)), .p (.pointer (some ⟨gx, 0, none⟩)), .p (.pointer (some ⟨gx, 0, none⟩)), .l 9 (.pointer (some ⟨gx, 0, none⟩)) (.string e.key), .p (.pointer (some ⟨gn, 0, none⟩)), .p (.pointer (some ⟨gn, 0, none⟩)), .p (.pointer (some ⟨gn, 0, none⟩)), .l 9 (.pointer (some ⟨gn, 0, none⟩)) (.string x.key), .p (.bool (Op.bytesLess (e.key).toList (x.key).toList)), .p (.bool (Op.bytesLess (e.key).toList (x.key).toList))] [0, 1, 2, 13] (by kernel_rfl) (by kernel_rfl) (⟨hx.ext st1.ext hnx, hbn.ext st1.ext hnn⟩) (by kernel_rfl) (fun _ => by kernel_rfl) (by kernel_rfl : pick _ _ = some [(0, .pointer (some ⟨bt, 0, none⟩)), (1, .pointer (some ⟨gn, 0, none⟩)), (2, .pointer (some ⟨gx, 0, none⟩)), (13, .bool (Op.bytesLess (e.key).toList (x.key).toList))]) (fun _ hS => ⟨ld1b (hS.1) nagg_9 rfl, ld1b (hS.2) nagg_9 rfl, trivial⟩) ?_
        refine RS_pick [0, 1, 2, 13] (by kernel_rfl : pick _ _ = some [(0, .pointer (some ⟨bt, 0, none⟩)), (1, .pointer (some ⟨gn, 0, none⟩)), (2, .pointer (some ⟨gx, 0, none⟩)), (13, .bool (Op.bytesLess (e.key).toList (x.key).toList))]) ?_
        refine RS_nil ?_
        refine n_then ?_
        refine W_false' rfl hlt ?_
        refine W_seq ?_
        -- region 5 draws: [(1, 0), (1, 1), (1, 2), (1, 3), (1, 4), (1, 5), (1, 6), (1, 7), (1, 8), (1, 9)]
        refine W_regionS (fun w' => Blk w' gx 181 [.string e.key, .string e.key, .int .i64 e.c, .int .i64 e.n, .string e.val, .bool e.dead, .int .i64 e.tal.k, .int .u64 e.tal.a, .int .u64 e.tal.b, .int .i64 s.k, .int .u64 s.a, .int .u64 s.b, .pointer ql, .pointer qr, .int .i64 m0, .int .i64 h0].toArray ∧ Blk w' gn 181 [.string x.key, .string x.key, .int .i64 x.c, .int .i64 x.n, .string x.val, .bool x.dead, .int .i64 x.tal.k, .int .u64 x.tal.a, .int .u64 x.tal.b, .int .i64 ((T.node x l r).sum.k), .int .u64 ((T.node x l r).sum.a), .int .u64 ((T.node x l r).sum.b), .pointer pl, .pointer pr, .int .i64 (((T.node x l r).size : Nat) : Int), .int .i64 (((T.node x l r).high : Nat) : Int)].toArray) [(1, 0), (1, 1), (1, 2), (1, 3), (1, 4), (1, 5), (1, 6), (1, 7), (1, 8), (1, 9)] 10 (by kernel_rfl) (by kernel_rfl) ?_
        have st2 := st1.drew
        refine RS_seg 10 [.p (.pointer (some ⟨gx, 0, none⟩)), .p (.pointer (some ⟨gx, 0, none⟩)), .p (.pointer (some ⟨gx, 0, none⟩)), .l 9 (.pointer (some ⟨gx, 0, none⟩)) (.string e.key), .p (.pointer (some ⟨gn, 0, none⟩)), .p (.pointer (some ⟨gn, 0, none⟩)), .p (.pointer (some ⟨gn, 0, none⟩)), .l 9 (.pointer (some ⟨gn, 0, none⟩)) (.string x.key), .p (.bool (!(Op.bytesLess (e.key).toList (x.key).toList || (e.key).toList == (x.key).toList))), .p (.bool (!(Op.bytesLess (e.key).toList (x.key).toList || (e.key).toList == (x.key).toList)))] [0, 1, 2, 37] (by kernel_rfl) (by kernel_rfl) (⟨hx.ext st2.ext hnx, hbn.ext st2.ext hnn⟩) (by kernel_rfl) (fun _ => by kernel_rfl) (by kernel_rfl : pick _ _ = some [(0, .pointer (some ⟨bt, 0, none⟩)), (1, .pointer (some ⟨gn, 0, none⟩)), (2, .pointer (some ⟨gx, 0, none⟩)), (37, .bool (!(Op.bytesLess (e.key).toList (x.key).toList || (e.key).toList == (x.key).toList)))]) (fun _ hS => ⟨ld1b (hS.1) nagg_9 rfl, ld1b (hS.2) nagg_9 rfl, trivial⟩) ?_
        refine RS_pick [0, 1, 2, 37] (by kernel_rfl : pick _ _ = some [(0, .pointer (some ⟨bt, 0, none⟩)), (1, .pointer (some ⟨gn, 0, none⟩)), (2, .pointer (some ⟨gx, 0, none⟩)), (37, .bool (!(Op.bytesLess (e.key).toList (x.key).toList || (e.key).toList == (x.key).toList)))]) ?_
        refine RS_nil ?_
        refine n_then ?_
        refine W_true' rfl hgt ?_
        refine W_seq ?_
        -- region 6 draws: [(1, 0), (1, 1), (1, 2), (1, 3), (1, 4), (1, 5), (1, 6), (1, 7), (1, 8), (1, 9), (1, 10), (1, 11), (2, 12), (2, 13), (0, 14)]
        refine W_regionS (fun w' => Blk w' gn 181 [.string x.key, .string x.key, .int .i64 x.c, .int .i64 x.n, .string x.val, .bool x.dead, .int .i64 x.tal.k, .int .u64 x.tal.a, .int .u64 x.tal.b, .int .i64 ((T.node x l r).sum.k), .int .u64 ((T.node x l r).sum.a), .int .u64 ((T.node x l r).sum.b), .pointer pl, .pointer pr, .int .i64 (((T.node x l r).size : Nat) : Int), .int .i64 (((T.node x l r).high : Nat) : Int)].toArray) [(1, 0), (1, 1), (1, 2), (1, 3), (1, 4), (1, 5), (1, 6), (1, 7), (1, 8), (1, 9), (1, 10), (1, 11), (2, 12), (2, 13), (0, 14)] 15 (by kernel_rfl) (by kernel_rfl) ?_
        have st3 := st2.drew
        refine RS_seg 12 [.p (.pointer (some ⟨bt, 0, none⟩)), .p (.pointer (some ⟨gn, 0, none⟩)), .p (.pointer (some ⟨gn, 0, none⟩)), .p (.pointer (some ⟨gn, 0, none⟩)), .p (.pointer (some ⟨gn, 12, none⟩)), .l 177 (.pointer (some ⟨gn, 12, none⟩)) (.pointer pl), .p (.pointer (some ⟨bt, 0, none⟩)), .p (.pointer (some ⟨gn, 0, none⟩)), .p (.pointer (some ⟨gn, 0, none⟩)), .p (.pointer (some ⟨gn, 13, none⟩)), .l 177 (.pointer (some ⟨gn, 13, none⟩)) (.pointer pr), .p (.pointer (some ⟨gx, 0, none⟩))] [47, 48, 52, 53, 57, 58] (by kernel_rfl) (by kernel_rfl) (hbn.ext st3.ext hnn) (by kernel_rfl) (fun _ => by kernel_rfl) (by kernel_rfl : pick _ _ = some [(47, .pointer (some ⟨bt, 0, none⟩)), (48, .pointer (some ⟨gn, 0, none⟩)), (52, .pointer pl), (53, .pointer (some ⟨bt, 0, none⟩)), (57, .pointer pr), (58, .pointer (some ⟨gx, 0, none⟩))]) (fun _ hS => ⟨ld1b (hS) nagg_177 rfl, ld1b (hS) nagg_177 rfl, trivial⟩) ?_
        refine RS_e rfl rfl (ef_call (k := 133) (args := [.pointer (some ⟨bt, 0, none⟩), .pointer pr, .pointer (some ⟨gx, 0, none⟩)]) (ihr ⟨htb.ext st3.ext hnt, st3.get 0 rfl⟩ (hx.ext st3.ext hnx) (hr.to st3.ext hno) (by (try simp only [T.size] at *) <;> omega)) body_133 (by kernel_rfl)) ?_
        rintro _ w4 ⟨_, rfl, o1, rfl, hi1, ⟨-, hbj⟩, hx6⟩
        have st5 := st3.turned 0 rfl (.inl (by simp)) hbj hx6
        have st7 : St [bm] w w4 [(bm, 205, [.int .i64 (addj (j) (T.putJ e r))])] := st5
        refine ⟨hbn.ext st7.ext hnn, ?_⟩
        refine RS_e rfl rfl (ef_call (k := 148) (args := [.pointer (some ⟨bt, 0, none⟩), .pointer (some ⟨gn, 0, none⟩), .pointer pl, .pointer (some ⟨o1, 0, none⟩)]) (even_cr ⟨htb.ext st7.ext hnt, st7.get 0 rfl⟩ (hbn.ext st7.ext hnn) (hl.to st7.ext hno) hi1 (by have := T.put_size e r; (try simp only [T.size] at *) <;> omega)) body_148 (by kernel_rfl)) ?_
        rintro _ w8 ⟨_, rfl, o2, rfl, hi2, ⟨-, hbj⟩, hx10⟩
        have st9 := st7.turned 0 rfl (.inl (by simp)) hbj hx10
        replace hi1 := hi1.to hx10 (NoNode.meter (st7.get 0 rfl))
        have st11 : St [bm] w w8 [(bm, 205, [.int .i64 (addj (addj (j) (T.putJ e r)) (T.evenJ x l (T.put e r)))])] := st9
        refine ⟨hbn.ext st11.ext hnn, ?_⟩
        refine RS_segP 1 [.p (.pointer (some ⟨o2, 0, none⟩))] [6] (by kernel_rfl) (by kernel_rfl) (by kernel_rfl) (fun _ => by kernel_rfl) (by kernel_rfl : pick _ _ = some [(6, .pointer (some ⟨o2, 0, none⟩))]) (fun _ => trivial) ?_
        refine RS_pick [6] (by kernel_rfl : pick _ _ = some [(6, .pointer (some ⟨o2, 0, none⟩))]) ?_
        refine RS_nil ?_
        refine n_then ?_
        refine W_ret ?_
        refine r_block <| r_then ?_
        have hbe := st11.get 0 rfl
        try simp only [addj_add] at hbe
        refine ret_of (P := Tryd.prog) (fn := Tryd.f133) (m := [(6, .pointer (some ⟨o2, 0, none⟩))]) (w := w8) (res1 rfl (rv_tmp rfl)) ?_
        -- return 0: .pointer (some ⟨o2, 0, none⟩)
        exact ⟨o2, rfl, hi2, ⟨htb.ext st11.ext hnt, hbe⟩, st11.ext⟩
      · rw [hgt]
        simp only [cond_false]
        unfold kgt at hgt
        refine CR_enter Tryd.func133 rfl Tryd.ntmps133 rfl ?_
        refine W_seq ?_
        refine W_region ?_
        refine RP_seg 1 [.p (.pointer none)] [0, 1, 2] (by kernel_rfl) (fun _ => by kernel_rfl) (by kernel_rfl : pick _ _ = some [(0, .pointer (some ⟨bt, 0, none⟩)), (1, .pointer (some ⟨gn, 0, none⟩)), (2, .pointer (some ⟨gx, 0, none⟩))]) (trivial) ?_
        refine RP_pick [0, 1, 2] (by kernel_rfl : pick _ _ = some [(0, .pointer (some ⟨bt, 0, none⟩)), (1, .pointer (some ⟨gn, 0, none⟩)), (2, .pointer (some ⟨gx, 0, none⟩))]) ?_
        refine RP_nil ?_
        refine n_then ?_
        refine W_seq ?_
        refine W_block ?_
        refine W_seq ?_
        refine W_region ?_
        refine RP_seg 3 [.p (.pointer (some ⟨gn, 0, none⟩)), .p (.bool false), .p (.bool false)] [0, 1, 2, 7] (by kernel_rfl) (fun _ => by kernel_rfl) (by kernel_rfl : pick _ _ = some [(0, .pointer (some ⟨bt, 0, none⟩)), (1, .pointer (some ⟨gn, 0, none⟩)), (2, .pointer (some ⟨gx, 0, none⟩)), (7, .bool false)]) (trivial) ?_
        refine RP_pick [0, 1, 2, 7] (by kernel_rfl : pick _ _ = some [(0, .pointer (some ⟨bt, 0, none⟩)), (1, .pointer (some ⟨gn, 0, none⟩)), (2, .pointer (some ⟨gx, 0, none⟩)), (7, .bool false)]) ?_
        refine RP_nil ?_
        refine n_then ?_
        refine W_false rfl ?_
        refine W_seq ?_
        -- region 3 draws: [(1, 0), (1, 1), (1, 2), (1, 3), (1, 4), (1, 5), (1, 6), (1, 7), (1, 8), (1, 9)]
        refine W_regionS (fun w' => Blk w' gx 181 [.string e.key, .string e.key, .int .i64 e.c, .int .i64 e.n, .string e.val, .bool e.dead, .int .i64 e.tal.k, .int .u64 e.tal.a, .int .u64 e.tal.b, .int .i64 s.k, .int .u64 s.a, .int .u64 s.b, .pointer ql, .pointer qr, .int .i64 m0, .int .i64 h0].toArray ∧ Blk w' gn 181 [.string x.key, .string x.key, .int .i64 x.c, .int .i64 x.n, .string x.val, .bool x.dead, .int .i64 x.tal.k, .int .u64 x.tal.a, .int .u64 x.tal.b, .int .i64 ((T.node x l r).sum.k), .int .u64 ((T.node x l r).sum.a), .int .u64 ((T.node x l r).sum.b), .pointer pl, .pointer pr, .int .i64 (((T.node x l r).size : Nat) : Int), .int .i64 (((T.node x l r).high : Nat) : Int)].toArray) [(1, 0), (1, 1), (1, 2), (1, 3), (1, 4), (1, 5), (1, 6), (1, 7), (1, 8), (1, 9)] 10 (by kernel_rfl) (by kernel_rfl) ?_
        have st1 := st.drew
        refine RS_seg 10 [.p (.pointer (some ⟨gx, 0, none⟩)), .p (.pointer (some ⟨gx, 0, none⟩)), .p (.pointer (some ⟨gx, 0, none⟩)), .l 9 (.pointer (some ⟨gx, 0, none⟩)) (.string e.key), .p (.pointer (some ⟨gn, 0, none⟩)), .p (.pointer (some ⟨gn, 0, none⟩)), .p (.pointer (some ⟨gn, 0, none⟩)), .l 9 (.pointer (some ⟨gn, 0, none⟩)) (.string x.key), .p (.bool (Op.bytesLess (e.key).toList (x.key).toList)), .p (.bool (Op.bytesLess (e.key).toList (x.key).toList))] [0, 1, 2, 13] (by kernel_rfl) (by kernel_rfl) (⟨hx.ext st1.ext hnx, hbn.ext st1.ext hnn⟩) (by kernel_rfl) (fun _ => by kernel_rfl) (by kernel_rfl : pick _ _ = some [(0, .pointer (some ⟨bt, 0, none⟩)), (1, .pointer (some ⟨gn, 0, none⟩)), (2, .pointer (some ⟨gx, 0, none⟩)), (13, .bool (Op.bytesLess (e.key).toList (x.key).toList))]) (fun _ hS => ⟨ld1b (hS.1) nagg_9 rfl, ld1b (hS.2) nagg_9 rfl, trivial⟩) ?_
        refine RS_pick [0, 1, 2, 13] (by kernel_rfl : pick _ _ = some [(0, .pointer (some ⟨bt, 0, none⟩)), (1, .pointer (some ⟨gn, 0, none⟩)), (2, .pointer (some ⟨gx, 0, none⟩)), (13, .bool (Op.bytesLess (e.key).toList (x.key).toList))]) ?_
        refine RS_nil ?_
        refine n_then ?_
        refine W_false' rfl hlt ?_
        refine W_seq ?_
        -- region 5 draws: [(1, 0), (1, 1), (1, 2), (1, 3), (1, 4), (1, 5), (1, 6), (1, 7), (1, 8), (1, 9)]
        refine W_regionS (fun w' => Blk w' gx 181 [.string e.key, .string e.key, .int .i64 e.c, .int .i64 e.n, .string e.val, .bool e.dead, .int .i64 e.tal.k, .int .u64 e.tal.a, .int .u64 e.tal.b, .int .i64 s.k, .int .u64 s.a, .int .u64 s.b, .pointer ql, .pointer qr, .int .i64 m0, .int .i64 h0].toArray ∧ Blk w' gn 181 [.string x.key, .string x.key, .int .i64 x.c, .int .i64 x.n, .string x.val, .bool x.dead, .int .i64 x.tal.k, .int .u64 x.tal.a, .int .u64 x.tal.b, .int .i64 ((T.node x l r).sum.k), .int .u64 ((T.node x l r).sum.a), .int .u64 ((T.node x l r).sum.b), .pointer pl, .pointer pr, .int .i64 (((T.node x l r).size : Nat) : Int), .int .i64 (((T.node x l r).high : Nat) : Int)].toArray) [(1, 0), (1, 1), (1, 2), (1, 3), (1, 4), (1, 5), (1, 6), (1, 7), (1, 8), (1, 9)] 10 (by kernel_rfl) (by kernel_rfl) ?_
        have st2 := st1.drew
        refine RS_seg 10 [.p (.pointer (some ⟨gx, 0, none⟩)), .p (.pointer (some ⟨gx, 0, none⟩)), .p (.pointer (some ⟨gx, 0, none⟩)), .l 9 (.pointer (some ⟨gx, 0, none⟩)) (.string e.key), .p (.pointer (some ⟨gn, 0, none⟩)), .p (.pointer (some ⟨gn, 0, none⟩)), .p (.pointer (some ⟨gn, 0, none⟩)), .l 9 (.pointer (some ⟨gn, 0, none⟩)) (.string x.key), .p (.bool (!(Op.bytesLess (e.key).toList (x.key).toList || (e.key).toList == (x.key).toList))), .p (.bool (!(Op.bytesLess (e.key).toList (x.key).toList || (e.key).toList == (x.key).toList)))] [0, 1, 2, 37] (by kernel_rfl) (by kernel_rfl) (⟨hx.ext st2.ext hnx, hbn.ext st2.ext hnn⟩) (by kernel_rfl) (fun _ => by kernel_rfl) (by kernel_rfl : pick _ _ = some [(0, .pointer (some ⟨bt, 0, none⟩)), (1, .pointer (some ⟨gn, 0, none⟩)), (2, .pointer (some ⟨gx, 0, none⟩)), (37, .bool (!(Op.bytesLess (e.key).toList (x.key).toList || (e.key).toList == (x.key).toList)))]) (fun _ hS => ⟨ld1b (hS.1) nagg_9 rfl, ld1b (hS.2) nagg_9 rfl, trivial⟩) ?_
        refine RS_pick [0, 1, 2, 37] (by kernel_rfl : pick _ _ = some [(0, .pointer (some ⟨bt, 0, none⟩)), (1, .pointer (some ⟨gn, 0, none⟩)), (2, .pointer (some ⟨gx, 0, none⟩)), (37, .bool (!(Op.bytesLess (e.key).toList (x.key).toList || (e.key).toList == (x.key).toList)))]) ?_
        refine RS_nil ?_
        refine n_then ?_
        refine W_false' rfl hgt ?_
        refine W_skip ?_
        refine n_block ?_
        refine n_then ?_
        refine W_seq ?_
        -- region 7 draws: [(1, 0), (1, 1), (1, 2), (1, 3), (1, 4), (1, 5), (1, 6), (1, 7), (1, 8), (1, 9), (2, 10), (0, 11)]
        refine W_regionS (fun w' => Blk w' gn 181 [.string x.key, .string x.key, .int .i64 x.c, .int .i64 x.n, .string x.val, .bool x.dead, .int .i64 x.tal.k, .int .u64 x.tal.a, .int .u64 x.tal.b, .int .i64 ((T.node x l r).sum.k), .int .u64 ((T.node x l r).sum.a), .int .u64 ((T.node x l r).sum.b), .pointer pl, .pointer pr, .int .i64 (((T.node x l r).size : Nat) : Int), .int .i64 (((T.node x l r).high : Nat) : Int)].toArray) [(1, 0), (1, 1), (1, 2), (1, 3), (1, 4), (1, 5), (1, 6), (1, 7), (1, 8), (1, 9), (2, 10), (0, 11)] 12 (by kernel_rfl) (by kernel_rfl) ?_
        have st3 := st2.drew
        refine RS_seg 10 [.p (.pointer (some ⟨bt, 0, none⟩)), .p (.pointer (some ⟨gx, 0, none⟩)), .p (.pointer (some ⟨gn, 0, none⟩)), .p (.pointer (some ⟨gn, 0, none⟩)), .p (.pointer (some ⟨gn, 12, none⟩)), .l 177 (.pointer (some ⟨gn, 12, none⟩)) (.pointer pl), .p (.pointer (some ⟨gn, 0, none⟩)), .p (.pointer (some ⟨gn, 0, none⟩)), .p (.pointer (some ⟨gn, 13, none⟩)), .l 177 (.pointer (some ⟨gn, 13, none⟩)) (.pointer pr)] [61, 62, 66, 70] (by kernel_rfl) (by kernel_rfl) (hbn.ext st3.ext hnn) (by kernel_rfl) (fun _ => by kernel_rfl) (by kernel_rfl : pick _ _ = some [(61, .pointer (some ⟨bt, 0, none⟩)), (62, .pointer (some ⟨gx, 0, none⟩)), (66, .pointer pl), (70, .pointer pr)]) (fun _ hS => ⟨ld1b (hS) nagg_177 rfl, ld1b (hS) nagg_177 rfl, trivial⟩) ?_
        refine RS_e rfl rfl (ef_call (k := 147) (args := [.pointer (some ⟨bt, 0, none⟩), .pointer (some ⟨gx, 0, none⟩), .pointer pl, .pointer pr]) (over_cr0 ⟨htb.ext st3.ext hnt, st3.get 0 rfl⟩ (hx.ext st3.ext hnx) (hl.to st3.ext hno) (hr.to st3.ext hno) (by (try simp only [T.size] at *) <;> omega)) body_147 (by kernel_rfl)) ?_
        rintro _ w4 ⟨_, rfl, o1, rfl, hi1, ⟨-, hbj⟩, hx6⟩
        have st5 := st3.turned 0 rfl (.inl (by simp)) hbj hx6
        have st7 : St [bm] w w4 [(bm, 205, [.int .i64 (addj (j) (T.joins l r))])] := st5
        refine ⟨hbn.ext st7.ext hnn, ?_⟩
        refine RS_segP 1 [.p (.pointer (some ⟨o1, 0, none⟩))] [6] (by kernel_rfl) (by kernel_rfl) (by kernel_rfl) (fun _ => by kernel_rfl) (by kernel_rfl : pick _ _ = some [(6, .pointer (some ⟨o1, 0, none⟩))]) (fun _ => trivial) ?_
        refine RS_pick [6] (by kernel_rfl : pick _ _ = some [(6, .pointer (some ⟨o1, 0, none⟩))]) ?_
        refine RS_nil ?_
        refine n_then ?_
        refine W_ret ?_
        have hbe := st7.get 0 rfl
        try simp only [addj_add] at hbe
        refine ret_of (P := Tryd.prog) (fn := Tryd.f133) (m := [(6, .pointer (some ⟨o1, 0, none⟩))]) (w := w4) (res1 rfl (rv_tmp rfl)) ?_
        -- return 0: .pointer (some ⟨o1, 0, none⟩)
        exact ⟨o1, rfl, hi1, ⟨htb.ext st7.ext hnt, hbe⟩, st7.ext⟩
theorem newMeter_cr (w : World) : CR Tryd.prog 99 [] w fun v w' => ∃ g, v = .pointer (some ⟨g, 0, none⟩) ∧ w.heap.size ≤ g ∧ Blk w' g 205 #[.int .i64 0] ∧ Ext [] w w' := by
  have st := St.init w []
  refine CR_enter Tryd.func99 rfl Tryd.ntmps99 rfl ?_
  refine W_seq ?_
  refine W_region ?_
  refine RP_seg 1 [.p (.pointer none)] [] (by kernel_rfl) (fun _ => by kernel_rfl) (by kernel_rfl : pick _ _ = some []) (trivial) ?_
  refine RP_pick [] (by kernel_rfl : pick _ _ = some []) ?_
  refine RP_nil ?_
  refine n_then ?_
  refine W_seq ?_
  refine W_region ?_
  refine RP_seg 1 [.p (.agg #[.int .i64 0])] [1] (by kernel_rfl) (fun _ => by kernel_rfl) (by kernel_rfl : pick _ _ = some [(1, .agg #[.int .i64 0])]) (trivial) ?_
  refine RP_e rfl (ef_box st rfl rfl) ?_
  rintro _ w1 ⟨gm, rfl, hgm, hgm', st2, hx3⟩
  replace st2 : St [] w w1 [(gm, 205, [.int .i64 0])] := st2
  refine RP_seg 1 [.p (.pointer (some ⟨gm, 0, none⟩))] [0] (by kernel_rfl) (fun _ => by kernel_rfl) (by kernel_rfl : pick _ _ = some [(0, .pointer (some ⟨gm, 0, none⟩))]) (trivial) ?_
  refine RP_pick [0] (by kernel_rfl : pick _ _ = some [(0, .pointer (some ⟨gm, 0, none⟩))]) ?_
  refine RP_nil ?_
  refine n_then ?_
  refine W_ret ?_
  refine ret_of (P := Tryd.prog) (fn := Tryd.f99) (m := [(0, .pointer (some ⟨gm, 0, none⟩))]) (w := w1) (res1 rfl (rv_tmp rfl)) ?_
  -- return 0: .pointer (some ⟨gm, 0, none⟩)
  exact ⟨gm, rfl, hgm, st2.get 0 rfl, st2.ext⟩
theorem newTree_cr (w : World) (bm : Nat) : CR Tryd.prog 100 [.agg #[.int .i64 0, .int .u64 0, .int .u64 0], .func (.func 101) #[.pointer (some ⟨bm, 0, none⟩)] #[]] w fun v w' => ∃ g, v = .pointer (some ⟨g, 0, none⟩) ∧ w.heap.size ≤ g ∧
    Blk w' g 179 #[.int .i64 0, .int .u64 0, .int .u64 0, .func (.func 101) #[.pointer (some ⟨bm, 0, none⟩)] #[], .pointer none] ∧ Ext [] w w' := by
  have st := St.init w []
  refine CR_enter Tryd.func100 rfl Tryd.ntmps100 rfl ?_
  refine W_seq ?_
  refine W_region ?_
  refine RP_e rfl (ef_box st rfl rfl) ?_
  rintro _ w1 ⟨g4, rfl, hg4, hg4', st2, hx3⟩
  replace st2 : St [] w w1 [(g4, 32, [.int .i64 0, .int .u64 0, .int .u64 0])] := st2
  refine RP_seg 1 [.p (.pointer none)] [1, 2] (by kernel_rfl) (fun _ => by kernel_rfl) (by kernel_rfl : pick _ _ = some [(1, .func (.func 101) #[.pointer (some ⟨bm, 0, none⟩)] #[]), (2, .pointer (some ⟨g4, 0, none⟩))]) (trivial) ?_
  refine RP_pick [1, 2] (by kernel_rfl : pick _ _ = some [(1, .func (.func 101) #[.pointer (some ⟨bm, 0, none⟩)] #[]), (2, .pointer (some ⟨g4, 0, none⟩))]) ?_
  refine RP_nil ?_
  refine n_then ?_
  refine W_seq ?_
  refine W_region ?_
  refine RP_seg 3 [.l 32 (.pointer (some ⟨g4, 0, none⟩)) (.agg #[.int .i64 0, .int .u64 0, .int .u64 0]), .p (.func (.func 101) #[.pointer (some ⟨bm, 0, none⟩)] #[]), .p (.agg #[.int .i64 0, .int .u64 0, .int .u64 0, .func (.func 101) #[.pointer (some ⟨bm, 0, none⟩)] #[], .pointer none])] [7] (by kernel_rfl) (fun _ => by kernel_rfl) (by kernel_rfl : pick _ _ = some [(7, .agg #[.int .i64 0, .int .u64 0, .int .u64 0, .func (.func 101) #[.pointer (some ⟨bm, 0, none⟩)] #[], .pointer none])]) ⟨ldN st2 agg_32 0 rfl rfl rfl, trivial⟩ ?_
  refine RP_e rfl (ef_box st2 rfl rfl) ?_
  rintro _ w5 ⟨gm, rfl, hgm, hgm', st6, hx7⟩
  replace st6 : St [] w w5 [(gm, 179, [.int .i64 0, .int .u64 0, .int .u64 0, .func (.func 101) #[.pointer (some ⟨bm, 0, none⟩)] #[], .pointer none]), (g4, 32, [.int .i64 0, .int .u64 0, .int .u64 0])] := st6
  refine RP_seg 1 [.p (.pointer (some ⟨gm, 0, none⟩))] [4] (by kernel_rfl) (fun _ => by kernel_rfl) (by kernel_rfl : pick _ _ = some [(4, .pointer (some ⟨gm, 0, none⟩))]) (trivial) ?_
  refine RP_pick [4] (by kernel_rfl : pick _ _ = some [(4, .pointer (some ⟨gm, 0, none⟩))]) ?_
  refine RP_nil ?_
  refine n_then ?_
  refine W_ret ?_
  refine ret_of (P := Tryd.prog) (fn := Tryd.f100) (m := [(4, .pointer (some ⟨gm, 0, none⟩))]) (w := w5) (res1 rfl (rv_tmp rfl)) ?_
  -- return 0: .pointer (some ⟨gm, 0, none⟩)
  exact ⟨gm, rfl, hgm, st6.get 0 rfl, st6.ext⟩
theorem len_cr {w : World} {bt bm : Nat} {j : Int} {p : Option Addr} {t : T} (hT : Tr w bt bm j p) (ht : IsT w p t) : CR Tryd.prog 111 [.pointer (some ⟨bt, 0, none⟩)] w fun v w' => v = .int .i64 (t.size : Nat) ∧ w = w' := by
  have st := St.init w []
  have htb := hT.t
  refine CR_enter Tryd.func111 rfl Tryd.ntmps111 rfl ?_
  refine W_seq ?_
  refine W_region ?_
  refine RP_seg 1 [.p (.int .i64 0)] [0] (by kernel_rfl) (fun _ => by kernel_rfl) (by kernel_rfl : pick _ _ = some [(0, .pointer (some ⟨bt, 0, none⟩))]) (trivial) ?_
  refine RP_pick [0] (by kernel_rfl : pick _ _ = some [(0, .pointer (some ⟨bt, 0, none⟩))]) ?_
  refine RP_nil ?_
  refine n_then ?_
  refine W_seq ?_
  refine W_region ?_
  refine RP_seg 4 [.p (.pointer (some ⟨bt, 0, none⟩)), .p (.pointer (some ⟨bt, 0, none⟩)), .p (.pointer (some ⟨bt, 4, none⟩)), .l 177 (.pointer (some ⟨bt, 4, none⟩)) (.pointer p)] [6] (by kernel_rfl) (fun _ => by kernel_rfl) (by kernel_rfl : pick _ _ = some [(6, .pointer p)]) ⟨ld1b (htb.ext st.ext List.not_mem_nil) nagg_177 rfl, trivial⟩ ?_
  refine RP_e rfl (ef_call (k := 116) (args := [.pointer p]) (many_cr ht) body_116 (by kernel_rfl)) ?_
  rintro _ _ ⟨_, rfl, rfl, rfl⟩
  refine RP_seg 1 [.p (.int .i64 ((t.size : Nat) : Int))] [2] (by kernel_rfl) (fun _ => by kernel_rfl) (by kernel_rfl : pick _ _ = some [(2, .int .i64 ((t.size : Nat) : Int))]) (trivial) ?_
  refine RP_pick [2] (by kernel_rfl : pick _ _ = some [(2, .int .i64 ((t.size : Nat) : Int))]) ?_
  refine RP_nil ?_
  refine n_then ?_
  refine W_ret ?_
  refine ret_of (P := Tryd.prog) (fn := Tryd.f111) (m := [(2, .int .i64 ((t.size : Nat) : Int))]) (w := w) (res1 rfl (rv_tmp rfl)) ?_
  -- return 0: .int .i64 ((t.size : Nat) : Int)
  exact ⟨rfl, rfl⟩
end Go.Proofs.YtcopemgkjbaaeaaDoor
