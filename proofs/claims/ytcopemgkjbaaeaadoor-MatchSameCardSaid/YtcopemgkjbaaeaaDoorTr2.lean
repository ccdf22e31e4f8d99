/-
  tree.over: a node over two others.
-/
import Derived.Test.YtcopemgkjbaaeaaDoorTr1
namespace Go.Proofs.YtcopemgkjbaaeaaDoor
set_option linter.all false
open Go.RowKit

/-- so many joins on top of j -/
def addj : Int → Nat → Int
  | j, 0 => j
  | j, k + 1 => addj (IntKind.i64.wrap (j + 1)) k
theorem addj_add : ∀ (k : Nat) (j : Int) (m : Nat), addj (addj j k) m = addj j (k + m)
  | 0, j, m => by simp [addj]
  | k + 1, j, m => by rw [show k + 1 + m = (k + m) + 1 from by omega]; exact addj_add k _ m
theorem wrap_small {x : Int} (h0 : 0 ≤ x) (h : x < 9223372036854775808) : IntKind.i64.wrap x = x := by rw [w64]; unfold wrap64; omega
def T.joins : T → T → Nat
  | l, r => (if l.isNil then 0 else 1) + (if r.isNil then 0 else 1)

/-- The tree's struct at bt, the Meter's at bm. -/
structure Tr (w : World) (bt bm : Nat) (j : Int) (p : Option Addr) : Prop where
  t : Blk w bt 179 #[.int .i64 0, .int .u64 0, .int .u64 0, .func (.func 101) #[.pointer (some ⟨bm, 0, none⟩)] #[], .pointer p]
  m : Blk w bm 205 #[.int .i64 j]
theorem Tr.ne {w : World} {bt bm : Nat} {j : Int} {p : Option Addr} (h : Tr w bt bm j p) : bt ≠ bm := h.t.ne_ h.m (by decide)
theorem NoNode.meter {w : World} {bm : Nat} {cs : Array Value} (h : Blk w bm 205 cs) : NoNode w [bm] := NoNode.one h (by decide)

theorem size_w {l r : Nat} (hs : l + r ≤ 1000000) : IntKind.i64.wrap (IntKind.i64.wrap ((l : Int) + 1) + (r : Int)) = ((l + 1 + r : Nat) : Int) := by
  rw [wrap_small (x := (l : Int) + 1) (by omega) (by omega), wrap_small (by omega) (by omega)]; omega
theorem high_w {l r : Nat} (hl : l ≤ 1000000) (hr : r ≤ 1000000) : IntKind.i64.wrap (1 + if (r : Int) > (l : Int) then (r : Int) else (l : Int)) = ((1 + max l r : Nat) : Int) := by
  rw [wrap_small (by split <;> omega) (by split <;> omega)]; split <;> omega


theorem over_cr {w : World} {bt bm : Nat} {j : Int} {p pl pr : Option Addr} {gx : Nat} {e : Ent} {s : Tal} {ql qr : Option Addr} {m0 h0 : Int} {l r : T}
    (hT : Tr w bt bm j p) (hx : Blk w gx 181 (nodeCells e s ql qr m0 h0)) (hl : IsT w pl l) (hr : IsT w pr r) (hs : l.size + r.size ≤ 1000000) :
    CR Tryd.prog 147 [.pointer (some ⟨bt, 0, none⟩), .pointer (some ⟨gx, 0, none⟩), .pointer pl, .pointer pr] w fun v w' =>
      ∃ g, v = .pointer (some ⟨g, 0, none⟩) ∧ w.heap.size ≤ g ∧ IsT w' (some ⟨g, 0, none⟩) (.node e l r) ∧ Tr w' bt bm (addj j (T.joins l r)) p ∧ Ext [bm] w w' := by
  have hl1 := l.high_le_size
  have hr1 := r.high_le_size
  have hnt : bt ∉ [bm] := by simpa using hT.ne
  have hnx : gx ∉ [bm] := by simpa using (hx.ne_ hT.m (by decide))
  have hno := NoNode.meter hT.m
  have st := (St.init w [bm]).add hT.m (by simp)
  have htb := hT.t
  have hbm := hT.m
  have hmlt := hT.m.lt
  have wsz := size_w hs
  have whi := high_w (l := l.high) (r := r.high) (by omega) (by omega)
  have hl' := hl
  have hr' := hr
  cases l with
  | nil =>
    obtain rfl : pl = none := hl
    cases r with
    | nil =>
      obtain rfl : pr = none := hr
      refine CR_enter Tryd.func147 rfl Tryd.ntmps147 rfl ?_
      refine W_seq ?_
      refine W_region ?_
      refine RP_seg 1 [.p (.pointer none)] [0, 1, 2, 3] (by kernel_rfl) (fun _ => by kernel_rfl) (by kernel_rfl : pick _ _ = some [(0, .pointer (some ⟨bt, 0, none⟩)), (1, .pointer (some ⟨gx, 0, none⟩)), (2, .pointer none), (3, .pointer none)]) (trivial) ?_
      refine RP_pick [0, 1, 2, 3] (by kernel_rfl : pick _ _ = some [(0, .pointer (some ⟨bt, 0, none⟩)), (1, .pointer (some ⟨gx, 0, none⟩)), (2, .pointer none), (3, .pointer none)]) ?_
      refine RP_nil ?_
      refine n_then ?_
      refine W_seq ?_
      -- region 1 draws: [(1, 0), (1, 1), (1, 2), (1, 3), (1, 4), (1, 5), (1, 6), (1, 7), (1, 8), (1, 9), (1, 10), (1, 11), (1, 12), (1, 13), (1, 14), (1, 15), (1, 16), (1, 17), (1, 18), (1, 21), (1, 24), (1, 26), (2, 19), (1, 20), (2, 22), (1, 23), (2, 25), (2, 27), (1, 28), (1, 29), (1, 30), (2, 31), (0, 32)]
      refine W_regionS (fun w' => Blk w' gx 181 [.string e.key, .string e.key, .int .i64 e.c, .int .i64 e.n, .string e.val, .bool e.dead, .int .i64 e.tal.k, .int .u64 e.tal.a, .int .u64 e.tal.b, .int .i64 s.k, .int .u64 s.a, .int .u64 s.b, .pointer ql, .pointer qr, .int .i64 m0, .int .i64 h0].toArray) [(1, 0), (1, 1), (1, 2), (1, 3), (1, 4), (1, 5), (1, 6), (1, 7), (1, 8), (1, 9), (1, 10), (1, 11), (1, 12), (1, 13), (1, 14), (1, 15), (1, 16), (1, 17), (1, 18), (1, 21), (1, 24), (1, 26), (2, 19), (1, 20), (2, 22), (1, 23), (2, 25), (2, 27), (1, 28), (1, 29), (1, 30), (2, 31), (0, 32)] 33 (by kernel_rfl) (by kernel_rfl) ?_
      have st1 := st.drew
      refine RS_seg 22 [.p (.pointer (some ⟨gx, 0, none⟩)), .p (.pointer (some ⟨gx, 0, none⟩)), .p (.pointer (some ⟨gx, 0, none⟩)), .l 9 (.pointer (some ⟨gx, 0, none⟩)) (.string e.key), .p (.pointer (some ⟨gx, 0, none⟩)), .p (.pointer (some ⟨gx, 0, none⟩)), .p (.pointer (some ⟨gx, 1, none⟩)), .l 61 (.pointer (some ⟨gx, 1, none⟩)) (.agg #[.string e.key, .int .i64 e.c, .int .i64 e.n, .string e.val, .bool e.dead]), .p (.pointer (some ⟨gx, 0, none⟩)), .p (.pointer (some ⟨gx, 0, none⟩)), .p (.pointer (some ⟨gx, 6, none⟩)), .l 32 (.pointer (some ⟨gx, 6, none⟩)) (.agg #[.int .i64 e.tal.k, .int .u64 e.tal.a, .int .u64 e.tal.b]), .p (.pointer (some ⟨gx, 0, none⟩)), .p (.pointer (some ⟨gx, 0, none⟩)), .p (.pointer (some ⟨gx, 6, none⟩)), .l 32 (.pointer (some ⟨gx, 6, none⟩)) (.agg #[.int .i64 e.tal.k, .int .u64 e.tal.a, .int .u64 e.tal.b]), .p (.pointer none), .p (.pointer none), .p (.pointer none), .p (.pointer none), .p (.pointer none), .p (.pointer none)] [0, 2, 3, 13, 17, 21, 25, 26, 27, 28, 31, 34, 36] (by kernel_rfl) (by kernel_rfl) (hx.ext st1.ext hnx) (by kernel_rfl) (fun _ => by kernel_rfl) (by kernel_rfl : pick _ _ = some [(0, .pointer (some ⟨bt, 0, none⟩)), (2, .pointer none), (3, .pointer none), (13, .string e.key), (17, .agg #[.string e.key, .int .i64 e.c, .int .i64 e.n, .string e.val, .bool e.dead]), (21, .agg #[.int .i64 e.tal.k, .int .u64 e.tal.a, .int .u64 e.tal.b]), (25, .agg #[.int .i64 e.tal.k, .int .u64 e.tal.a, .int .u64 e.tal.b]), (26, .pointer none), (27, .pointer none), (28, .pointer none), (31, .pointer none), (34, .pointer none), (36, .pointer none)]) (fun _ hS => ⟨ld1b (hS) nagg_9 rfl, ldNb (hS) agg_61 rfl rfl, ldNb (hS) agg_32 rfl rfl, ldNb (hS) agg_32 rfl rfl, trivial⟩) ?_
      refine RS_e rfl rfl (ef_call (k := 116) (args := [.pointer none]) (many_cr (hl'.to st1.ext hno)) body_116 (by kernel_rfl)) ?_
      rintro _ _ ⟨_, rfl, rfl, rfl⟩
      refine ⟨hx.ext st1.ext hnx, ?_⟩
      refine RS_seg 1 [.p (.int .i64 (IntKind.i64.wrap (((T.nil.size : Nat) : Int) + 1)))] [0, 2, 3, 13, 17, 21, 25, 26, 27, 30, 31, 34, 36] (by kernel_rfl) (by kernel_rfl) (hx.ext st1.ext hnx) (by kernel_rfl) (fun _ => by kernel_rfl) (by kernel_rfl : pick _ _ = some [(0, .pointer (some ⟨bt, 0, none⟩)), (2, .pointer none), (3, .pointer none), (13, .string e.key), (17, .agg #[.string e.key, .int .i64 e.c, .int .i64 e.n, .string e.val, .bool e.dead]), (21, .agg #[.int .i64 e.tal.k, .int .u64 e.tal.a, .int .u64 e.tal.b]), (25, .agg #[.int .i64 e.tal.k, .int .u64 e.tal.a, .int .u64 e.tal.b]), (26, .pointer none), (27, .pointer none), (30, .int .i64 (IntKind.i64.wrap (((T.nil.size : Nat) : Int) + 1))), (31, .pointer none), (34, .pointer none), (36, .pointer none)]) (fun _ hS => trivial) ?_
      refine RS_e rfl rfl (ef_call (k := 116) (args := [.pointer none]) (many_cr (hr'.to st1.ext hno)) body_116 (by kernel_rfl)) ?_
      rintro _ _ ⟨_, rfl, rfl, rfl⟩
      refine ⟨hx.ext st1.ext hnx, ?_⟩
      refine RS_seg 1 [.p (.int .i64 (IntKind.i64.wrap ((IntKind.i64.wrap (((T.nil.size : Nat) : Int) + 1)) + ((T.nil.size : Nat) : Int))))] [0, 2, 3, 13, 17, 21, 25, 26, 27, 33, 34, 36] (by kernel_rfl) (by kernel_rfl) (hx.ext st1.ext hnx) (by kernel_rfl) (fun _ => by kernel_rfl) (by kernel_rfl : pick _ _ = some [(0, .pointer (some ⟨bt, 0, none⟩)), (2, .pointer none), (3, .pointer none), (13, .string e.key), (17, .agg #[.string e.key, .int .i64 e.c, .int .i64 e.n, .string e.val, .bool e.dead]), (21, .agg #[.int .i64 e.tal.k, .int .u64 e.tal.a, .int .u64 e.tal.b]), (25, .agg #[.int .i64 e.tal.k, .int .u64 e.tal.a, .int .u64 e.tal.b]), (26, .pointer none), (27, .pointer none), (33, .int .i64 (IntKind.i64.wrap ((IntKind.i64.wrap (((T.nil.size : Nat) : Int) + 1)) + ((T.nil.size : Nat) : Int)))), (34, .pointer none), (36, .pointer none)]) (fun _ hS => trivial) ?_
      refine RS_e rfl rfl (ef_call (k := 155) (args := [.pointer none]) (high_cr (hl'.to st1.ext hno)) body_155 (by kernel_rfl)) ?_
      rintro _ _ ⟨_, rfl, rfl, rfl⟩
      refine ⟨hx.ext st1.ext hnx, ?_⟩
      refine RS_e rfl rfl (ef_call (k := 155) (args := [.pointer none]) (high_cr (hr'.to st1.ext hno)) body_155 (by kernel_rfl)) ?_
      rintro _ _ ⟨_, rfl, rfl, rfl⟩
      refine ⟨hx.ext st1.ext hnx, ?_⟩
      refine RS_seg 3 [.p (.int .i64 (if ((T.nil.high : Nat) : Int) > ((T.nil.high : Nat) : Int) then ((T.nil.high : Nat) : Int) else ((T.nil.high : Nat) : Int))), .p (.int .i64 (IntKind.i64.wrap (1 + (if ((T.nil.high : Nat) : Int) > ((T.nil.high : Nat) : Int) then ((T.nil.high : Nat) : Int) else ((T.nil.high : Nat) : Int))))), .p (.agg #[.string e.key, .string e.key, .int .i64 e.c, .int .i64 e.n, .string e.val, .bool e.dead, .int .i64 e.tal.k, .int .u64 e.tal.a, .int .u64 e.tal.b, .int .i64 e.tal.k, .int .u64 e.tal.a, .int .u64 e.tal.b, .pointer none, .pointer none, .int .i64 (IntKind.i64.wrap ((IntKind.i64.wrap (((T.nil.size : Nat) : Int) + 1)) + ((T.nil.size : Nat) : Int))), .int .i64 (IntKind.i64.wrap (1 + (if ((T.nil.high : Nat) : Int) > ((T.nil.high : Nat) : Int) then ((T.nil.high : Nat) : Int) else ((T.nil.high : Nat) : Int))))])] [0, 2, 3, 40] (by kernel_rfl) (by kernel_rfl) (hx.ext st1.ext hnx) (by kernel_rfl) (fun _ => by kernel_rfl) (by kernel_rfl : pick _ _ = some [(0, .pointer (some ⟨bt, 0, none⟩)), (2, .pointer none), (3, .pointer none), (40, .agg #[.string e.key, .string e.key, .int .i64 e.c, .int .i64 e.n, .string e.val, .bool e.dead, .int .i64 e.tal.k, .int .u64 e.tal.a, .int .u64 e.tal.b, .int .i64 e.tal.k, .int .u64 e.tal.a, .int .u64 e.tal.b, .pointer none, .pointer none, .int .i64 (IntKind.i64.wrap ((IntKind.i64.wrap (((T.nil.size : Nat) : Int) + 1)) + ((T.nil.size : Nat) : Int))), .int .i64 (IntKind.i64.wrap (1 + (if ((T.nil.high : Nat) : Int) > ((T.nil.high : Nat) : Int) then ((T.nil.high : Nat) : Int) else ((T.nil.high : Nat) : Int))))])]) (fun _ hS => trivial) ?_
      refine RS_e rfl rfl (ef_box st1 rfl rfl) ?_
      rintro _ w14 ⟨gn, rfl, hgn, hgn', st15, hx16⟩
      replace st15 : St [bm] w w14 [(gn, 181, [.string e.key, .string e.key, .int .i64 e.c, .int .i64 e.n, .string e.val, .bool e.dead, .int .i64 e.tal.k, .int .u64 e.tal.a, .int .u64 e.tal.b, .int .i64 e.tal.k, .int .u64 e.tal.a, .int .u64 e.tal.b, .pointer none, .pointer none, .int .i64 (IntKind.i64.wrap ((IntKind.i64.wrap (((T.nil.size : Nat) : Int) + 1)) + ((T.nil.size : Nat) : Int))), .int .i64 (IntKind.i64.wrap (1 + (if ((T.nil.high : Nat) : Int) > ((T.nil.high : Nat) : Int) then ((T.nil.high : Nat) : Int) else ((T.nil.high : Nat) : Int))))]), (bm, 205, [.int .i64 j])] := st15
      refine ⟨hx.ext st15.ext hnx, ?_⟩
      refine RS_segP 1 [.p (.pointer (some ⟨gn, 0, none⟩))] [0, 2, 3, 9] (by kernel_rfl) (by kernel_rfl) (by kernel_rfl) (fun _ => by kernel_rfl) (by kernel_rfl : pick _ _ = some [(0, .pointer (some ⟨bt, 0, none⟩)), (2, .pointer none), (3, .pointer none), (9, .pointer (some ⟨gn, 0, none⟩))]) (fun _ => trivial) ?_
      refine RS_pick [0, 2, 3, 9] (by kernel_rfl : pick _ _ = some [(0, .pointer (some ⟨bt, 0, none⟩)), (2, .pointer none), (3, .pointer none), (9, .pointer (some ⟨gn, 0, none⟩))]) ?_
      refine RS_nil ?_
      refine n_then ?_
      refine W_seq ?_
      refine W_seq ?_
      refine W_region ?_
      refine RP_seg 2 [.p (.pointer none), .p (.bool false)] [0, 2, 3, 9, 43] (by kernel_rfl) (fun _ => by kernel_rfl) (by kernel_rfl : pick _ _ = some [(0, .pointer (some ⟨bt, 0, none⟩)), (2, .pointer none), (3, .pointer none), (9, .pointer (some ⟨gn, 0, none⟩)), (43, .bool false)]) (trivial) ?_
      refine RP_pick [0, 2, 3, 9, 43] (by kernel_rfl : pick _ _ = some [(0, .pointer (some ⟨bt, 0, none⟩)), (2, .pointer none), (3, .pointer none), (9, .pointer (some ⟨gn, 0, none⟩)), (43, .bool false)]) ?_
      refine RP_nil ?_
      refine n_then ?_
      refine W_false rfl ?_
      refine W_skip ?_
      refine n_then ?_
      refine W_seq ?_
      refine W_seq ?_
      refine W_region ?_
      refine RP_seg 2 [.p (.pointer none), .p (.bool false)] [0, 3, 9, 61] (by kernel_rfl) (fun _ => by kernel_rfl) (by kernel_rfl : pick _ _ = some [(0, .pointer (some ⟨bt, 0, none⟩)), (3, .pointer none), (9, .pointer (some ⟨gn, 0, none⟩)), (61, .bool false)]) (trivial) ?_
      refine RP_pick [0, 3, 9, 61] (by kernel_rfl : pick _ _ = some [(0, .pointer (some ⟨bt, 0, none⟩)), (3, .pointer none), (9, .pointer (some ⟨gn, 0, none⟩)), (61, .bool false)]) ?_
      refine RP_nil ?_
      refine n_then ?_
      refine W_false rfl ?_
      refine W_skip ?_
      refine n_then ?_
      refine W_seq ?_
      refine W_region ?_
      refine RP_seg 2 [.p (.pointer (some ⟨gn, 0, none⟩)), .p (.pointer (some ⟨gn, 0, none⟩))] [8] (by kernel_rfl) (fun _ => by kernel_rfl) (by kernel_rfl : pick _ _ = some [(8, .pointer (some ⟨gn, 0, none⟩))]) (trivial) ?_
      refine RP_pick [8] (by kernel_rfl : pick _ _ = some [(8, .pointer (some ⟨gn, 0, none⟩))]) ?_
      refine RP_nil ?_
      refine n_then ?_
      refine W_ret ?_
      refine ret_of (P := Tryd.prog) (fn := Tryd.f147) (m := [(8, .pointer (some ⟨gn, 0, none⟩))]) (w := w14) (res1 rfl (rv_tmp rfl)) ?_
      -- return 0: .pointer (some ⟨gn, 0, none⟩)
      exact ⟨gn, rfl, hgn, ⟨gn, _, _, rfl, by rw [T.size, T.high, ← wsz, ← whi]; exact st15.get 0 rfl, hl'.to st15.ext hno, hr'.to st15.ext hno⟩, ⟨htb.ext st15.ext hnt, st15.get 1 rfl⟩, st15.ext⟩
    | node re rl rr =>
      obtain ⟨gr, prl, prr, rfl, hbr, -, -⟩ := hr
      have hnr : gr ∉ [bm] := by simpa using (hbr.ne_ hT.m (by decide))
      refine CR_enter Tryd.func147 rfl Tryd.ntmps147 rfl ?_
      refine W_seq ?_
      refine W_region ?_
      refine RP_seg 1 [.p (.pointer none)] [0, 1, 2, 3] (by kernel_rfl) (fun _ => by kernel_rfl) (by kernel_rfl : pick _ _ = some [(0, .pointer (some ⟨bt, 0, none⟩)), (1, .pointer (some ⟨gx, 0, none⟩)), (2, .pointer none), (3, .pointer (some ⟨gr, 0, none⟩))]) (trivial) ?_
      refine RP_pick [0, 1, 2, 3] (by kernel_rfl : pick _ _ = some [(0, .pointer (some ⟨bt, 0, none⟩)), (1, .pointer (some ⟨gx, 0, none⟩)), (2, .pointer none), (3, .pointer (some ⟨gr, 0, none⟩))]) ?_
      refine RP_nil ?_
      refine n_then ?_
      refine W_seq ?_
      -- region 1 draws: [(1, 0), (1, 1), (1, 2), (1, 3), (1, 4), (1, 5), (1, 6), (1, 7), (1, 8), (1, 9), (1, 10), (1, 11), (1, 12), (1, 13), (1, 14), (1, 15), (1, 16), (1, 17), (1, 18), (1, 21), (1, 24), (1, 26), (2, 19), (1, 20), (2, 22), (1, 23), (2, 25), (2, 27), (1, 28), (1, 29), (1, 30), (2, 31), (0, 32)]
      refine W_regionS (fun w' => Blk w' gx 181 [.string e.key, .string e.key, .int .i64 e.c, .int .i64 e.n, .string e.val, .bool e.dead, .int .i64 e.tal.k, .int .u64 e.tal.a, .int .u64 e.tal.b, .int .i64 s.k, .int .u64 s.a, .int .u64 s.b, .pointer ql, .pointer qr, .int .i64 m0, .int .i64 h0].toArray) [(1, 0), (1, 1), (1, 2), (1, 3), (1, 4), (1, 5), (1, 6), (1, 7), (1, 8), (1, 9), (1, 10), (1, 11), (1, 12), (1, 13), (1, 14), (1, 15), (1, 16), (1, 17), (1, 18), (1, 21), (1, 24), (1, 26), (2, 19), (1, 20), (2, 22), (1, 23), (2, 25), (2, 27), (1, 28), (1, 29), (1, 30), (2, 31), (0, 32)] 33 (by kernel_rfl) (by kernel_rfl) ?_
      have st1 := st.drew
      refine RS_seg 22 [.p (.pointer (some ⟨gx, 0, none⟩)), .p (.pointer (some ⟨gx, 0, none⟩)), .p (.pointer (some ⟨gx, 0, none⟩)), .l 9 (.pointer (some ⟨gx, 0, none⟩)) (.string e.key), .p (.pointer (some ⟨gx, 0, none⟩)), .p (.pointer (some ⟨gx, 0, none⟩)), .p (.pointer (some ⟨gx, 1, none⟩)), .l 61 (.pointer (some ⟨gx, 1, none⟩)) (.agg #[.string e.key, .int .i64 e.c, .int .i64 e.n, .string e.val, .bool e.dead]), .p (.pointer (some ⟨gx, 0, none⟩)), .p (.pointer (some ⟨gx, 0, none⟩)), .p (.pointer (some ⟨gx, 6, none⟩)), .l 32 (.pointer (some ⟨gx, 6, none⟩)) (.agg #[.int .i64 e.tal.k, .int .u64 e.tal.a, .int .u64 e.tal.b]), .p (.pointer (some ⟨gx, 0, none⟩)), .p (.pointer (some ⟨gx, 0, none⟩)), .p (.pointer (some ⟨gx, 6, none⟩)), .l 32 (.pointer (some ⟨gx, 6, none⟩)) (.agg #[.int .i64 e.tal.k, .int .u64 e.tal.a, .int .u64 e.tal.b]), .p (.pointer none), .p (.pointer (some ⟨gr, 0, none⟩)), .p (.pointer none), .p (.pointer (some ⟨gr, 0, none⟩)), .p (.pointer none), .p (.pointer (some ⟨gr, 0, none⟩))] [0, 2, 3, 13, 17, 21, 25, 26, 27, 28, 31, 34, 36] (by kernel_rfl) (by kernel_rfl) (hx.ext st1.ext hnx) (by kernel_rfl) (fun _ => by kernel_rfl) (by kernel_rfl : pick _ _ = some [(0, .pointer (some ⟨bt, 0, none⟩)), (2, .pointer none), (3, .pointer (some ⟨gr, 0, none⟩)), (13, .string e.key), (17, .agg #[.string e.key, .int .i64 e.c, .int .i64 e.n, .string e.val, .bool e.dead]), (21, .agg #[.int .i64 e.tal.k, .int .u64 e.tal.a, .int .u64 e.tal.b]), (25, .agg #[.int .i64 e.tal.k, .int .u64 e.tal.a, .int .u64 e.tal.b]), (26, .pointer none), (27, .pointer (some ⟨gr, 0, none⟩)), (28, .pointer none), (31, .pointer (some ⟨gr, 0, none⟩)), (34, .pointer none), (36, .pointer (some ⟨gr, 0, none⟩))]) (fun _ hS => ⟨ld1b (hS) nagg_9 rfl, ldNb (hS) agg_61 rfl rfl, ldNb (hS) agg_32 rfl rfl, ldNb (hS) agg_32 rfl rfl, trivial⟩) ?_
      refine RS_e rfl rfl (ef_call (k := 116) (args := [.pointer none]) (many_cr (hl'.to st1.ext hno)) body_116 (by kernel_rfl)) ?_
      rintro _ _ ⟨_, rfl, rfl, rfl⟩
      refine ⟨hx.ext st1.ext hnx, ?_⟩
      refine RS_seg 1 [.p (.int .i64 (IntKind.i64.wrap (((T.nil.size : Nat) : Int) + 1)))] [0, 2, 3, 13, 17, 21, 25, 26, 27, 30, 31, 34, 36] (by kernel_rfl) (by kernel_rfl) (hx.ext st1.ext hnx) (by kernel_rfl) (fun _ => by kernel_rfl) (by kernel_rfl : pick _ _ = some [(0, .pointer (some ⟨bt, 0, none⟩)), (2, .pointer none), (3, .pointer (some ⟨gr, 0, none⟩)), (13, .string e.key), (17, .agg #[.string e.key, .int .i64 e.c, .int .i64 e.n, .string e.val, .bool e.dead]), (21, .agg #[.int .i64 e.tal.k, .int .u64 e.tal.a, .int .u64 e.tal.b]), (25, .agg #[.int .i64 e.tal.k, .int .u64 e.tal.a, .int .u64 e.tal.b]), (26, .pointer none), (27, .pointer (some ⟨gr, 0, none⟩)), (30, .int .i64 (IntKind.i64.wrap (((T.nil.size : Nat) : Int) + 1))), (31, .pointer (some ⟨gr, 0, none⟩)), (34, .pointer none), (36, .pointer (some ⟨gr, 0, none⟩))]) (fun _ hS => trivial) ?_
      refine RS_e rfl rfl (ef_call (k := 116) (args := [.pointer (some ⟨gr, 0, none⟩)]) (many_cr (hr'.to st1.ext hno)) body_116 (by kernel_rfl)) ?_
      rintro _ _ ⟨_, rfl, rfl, rfl⟩
      refine ⟨hx.ext st1.ext hnx, ?_⟩
      refine RS_seg 1 [.p (.int .i64 (IntKind.i64.wrap ((IntKind.i64.wrap (((T.nil.size : Nat) : Int) + 1)) + (((T.node re rl rr).size : Nat) : Int))))] [0, 2, 3, 13, 17, 21, 25, 26, 27, 33, 34, 36] (by kernel_rfl) (by kernel_rfl) (hx.ext st1.ext hnx) (by kernel_rfl) (fun _ => by kernel_rfl) (by kernel_rfl : pick _ _ = some [(0, .pointer (some ⟨bt, 0, none⟩)), (2, .pointer none), (3, .pointer (some ⟨gr, 0, none⟩)), (13, .string e.key), (17, .agg #[.string e.key, .int .i64 e.c, .int .i64 e.n, .string e.val, .bool e.dead]), (21, .agg #[.int .i64 e.tal.k, .int .u64 e.tal.a, .int .u64 e.tal.b]), (25, .agg #[.int .i64 e.tal.k, .int .u64 e.tal.a, .int .u64 e.tal.b]), (26, .pointer none), (27, .pointer (some ⟨gr, 0, none⟩)), (33, .int .i64 (IntKind.i64.wrap ((IntKind.i64.wrap (((T.nil.size : Nat) : Int) + 1)) + (((T.node re rl rr).size : Nat) : Int)))), (34, .pointer none), (36, .pointer (some ⟨gr, 0, none⟩))]) (fun _ hS => trivial) ?_
      refine RS_e rfl rfl (ef_call (k := 155) (args := [.pointer none]) (high_cr (hl'.to st1.ext hno)) body_155 (by kernel_rfl)) ?_
      rintro _ _ ⟨_, rfl, rfl, rfl⟩
      refine ⟨hx.ext st1.ext hnx, ?_⟩
      refine RS_e rfl rfl (ef_call (k := 155) (args := [.pointer (some ⟨gr, 0, none⟩)]) (high_cr (hr'.to st1.ext hno)) body_155 (by kernel_rfl)) ?_
      rintro _ _ ⟨_, rfl, rfl, rfl⟩
      refine ⟨hx.ext st1.ext hnx, ?_⟩
      refine RS_seg 3 [.p (.int .i64 (if (((T.node re rl rr).high : Nat) : Int) > ((T.nil.high : Nat) : Int) then (((T.node re rl rr).high : Nat) : Int) else ((T.nil.high : Nat) : Int))), .p (.int .i64 (IntKind.i64.wrap (1 + (if (((T.node re rl rr).high : Nat) : Int) > ((T.nil.high : Nat) : Int) then (((T.node re rl rr).high : Nat) : Int) else ((T.nil.high : Nat) : Int))))), .p (.agg #[.string e.key, .string e.key, .int .i64 e.c, .int .i64 e.n, .string e.val, .bool e.dead, .int .i64 e.tal.k, .int .u64 e.tal.a, .int .u64 e.tal.b, .int .i64 e.tal.k, .int .u64 e.tal.a, .int .u64 e.tal.b, .pointer none, .pointer (some ⟨gr, 0, none⟩), .int .i64 (IntKind.i64.wrap ((IntKind.i64.wrap (((T.nil.size : Nat) : Int) + 1)) + (((T.node re rl rr).size : Nat) : Int))), .int .i64 (IntKind.i64.wrap (1 + (if (((T.node re rl rr).high : Nat) : Int) > ((T.nil.high : Nat) : Int) then (((T.node re rl rr).high : Nat) : Int) else ((T.nil.high : Nat) : Int))))])] [0, 2, 3, 40] (by kernel_rfl) (by kernel_rfl) (hx.ext st1.ext hnx) (by kernel_rfl) (fun _ => by kernel_rfl) (by kernel_rfl : pick _ _ = some [(0, .pointer (some ⟨bt, 0, none⟩)), (2, .pointer none), (3, .pointer (some ⟨gr, 0, none⟩)), (40, .agg #[.string e.key, .string e.key, .int .i64 e.c, .int .i64 e.n, .string e.val, .bool e.dead, .int .i64 e.tal.k, .int .u64 e.tal.a, .int .u64 e.tal.b, .int .i64 e.tal.k, .int .u64 e.tal.a, .int .u64 e.tal.b, .pointer none, .pointer (some ⟨gr, 0, none⟩), .int .i64 (IntKind.i64.wrap ((IntKind.i64.wrap (((T.nil.size : Nat) : Int) + 1)) + (((T.node re rl rr).size : Nat) : Int))), .int .i64 (IntKind.i64.wrap (1 + (if (((T.node re rl rr).high : Nat) : Int) > ((T.nil.high : Nat) : Int) then (((T.node re rl rr).high : Nat) : Int) else ((T.nil.high : Nat) : Int))))])]) (fun _ hS => trivial) ?_
      refine RS_e rfl rfl (ef_box st1 rfl rfl) ?_
      rintro _ w14 ⟨gn, rfl, hgn, hgn', st15, hx16⟩
      replace st15 : St [bm] w w14 [(gn, 181, [.string e.key, .string e.key, .int .i64 e.c, .int .i64 e.n, .string e.val, .bool e.dead, .int .i64 e.tal.k, .int .u64 e.tal.a, .int .u64 e.tal.b, .int .i64 e.tal.k, .int .u64 e.tal.a, .int .u64 e.tal.b, .pointer none, .pointer (some ⟨gr, 0, none⟩), .int .i64 (IntKind.i64.wrap ((IntKind.i64.wrap (((T.nil.size : Nat) : Int) + 1)) + (((T.node re rl rr).size : Nat) : Int))), .int .i64 (IntKind.i64.wrap (1 + (if (((T.node re rl rr).high : Nat) : Int) > ((T.nil.high : Nat) : Int) then (((T.node re rl rr).high : Nat) : Int) else ((T.nil.high : Nat) : Int))))]), (bm, 205, [.int .i64 j])] := st15
      refine ⟨hx.ext st15.ext hnx, ?_⟩
      refine RS_segP 1 [.p (.pointer (some ⟨gn, 0, none⟩))] [0, 2, 3, 9] (by kernel_rfl) (by kernel_rfl) (by kernel_rfl) (fun _ => by kernel_rfl) (by kernel_rfl : pick _ _ = some [(0, .pointer (some ⟨bt, 0, none⟩)), (2, .pointer none), (3, .pointer (some ⟨gr, 0, none⟩)), (9, .pointer (some ⟨gn, 0, none⟩))]) (fun _ => trivial) ?_
      refine RS_pick [0, 2, 3, 9] (by kernel_rfl : pick _ _ = some [(0, .pointer (some ⟨bt, 0, none⟩)), (2, .pointer none), (3, .pointer (some ⟨gr, 0, none⟩)), (9, .pointer (some ⟨gn, 0, none⟩))]) ?_
      refine RS_nil ?_
      refine n_then ?_
      refine W_seq ?_
      refine W_seq ?_
      refine W_region ?_
      refine RP_seg 2 [.p (.pointer none), .p (.bool false)] [0, 2, 3, 9, 43] (by kernel_rfl) (fun _ => by kernel_rfl) (by kernel_rfl : pick _ _ = some [(0, .pointer (some ⟨bt, 0, none⟩)), (2, .pointer none), (3, .pointer (some ⟨gr, 0, none⟩)), (9, .pointer (some ⟨gn, 0, none⟩)), (43, .bool false)]) (trivial) ?_
      refine RP_pick [0, 2, 3, 9, 43] (by kernel_rfl : pick _ _ = some [(0, .pointer (some ⟨bt, 0, none⟩)), (2, .pointer none), (3, .pointer (some ⟨gr, 0, none⟩)), (9, .pointer (some ⟨gn, 0, none⟩)), (43, .bool false)]) ?_
      refine RP_nil ?_
      refine n_then ?_
      refine W_false rfl ?_
      refine W_skip ?_
      refine n_then ?_
      refine W_seq ?_
      refine W_seq ?_
      refine W_region ?_
      refine RP_seg 2 [.p (.pointer (some ⟨gr, 0, none⟩)), .p (.bool true)] [0, 3, 9, 61] (by kernel_rfl) (fun _ => by kernel_rfl) (by kernel_rfl : pick _ _ = some [(0, .pointer (some ⟨bt, 0, none⟩)), (3, .pointer (some ⟨gr, 0, none⟩)), (9, .pointer (some ⟨gn, 0, none⟩)), (61, .bool true)]) (trivial) ?_
      refine RP_pick [0, 3, 9, 61] (by kernel_rfl : pick _ _ = some [(0, .pointer (some ⟨bt, 0, none⟩)), (3, .pointer (some ⟨gr, 0, none⟩)), (9, .pointer (some ⟨gn, 0, none⟩)), (61, .bool true)]) ?_
      refine RP_nil ?_
      refine n_then ?_
      refine W_true rfl ?_
      -- region 5 draws: [(1, 0), (1, 1), (1, 2), (1, 3), (1, 4), (1, 5), (1, 6), (1, 7), (1, 8), (1, 9), (1, 10), (1, 11), (1, 12), (2, 13), (0, 14), (0, 15), (3, 16)]
      refine W_regionS (fun w' => Blk w' gn 181 [.string e.key, .string e.key, .int .i64 e.c, .int .i64 e.n, .string e.val, .bool e.dead, .int .i64 e.tal.k, .int .u64 e.tal.a, .int .u64 e.tal.b, .int .i64 e.tal.k, .int .u64 e.tal.a, .int .u64 e.tal.b, .pointer none, .pointer (some ⟨gr, 0, none⟩), .int .i64 (IntKind.i64.wrap ((IntKind.i64.wrap (((T.nil.size : Nat) : Int) + 1)) + (((T.node re rl rr).size : Nat) : Int))), .int .i64 (IntKind.i64.wrap (1 + (if (((T.node re rl rr).high : Nat) : Int) > ((T.nil.high : Nat) : Int) then (((T.node re rl rr).high : Nat) : Int) else ((T.nil.high : Nat) : Int))))].toArray ∧ Blk w' bt 179 [.int .i64 0, .int .u64 0, .int .u64 0, .func (.func 101) #[.pointer (some ⟨bm, 0, none⟩)] #[], .pointer p].toArray ∧ Blk w' gr 181 [.string re.key, .string re.key, .int .i64 re.c, .int .i64 re.n, .string re.val, .bool re.dead, .int .i64 re.tal.k, .int .u64 re.tal.a, .int .u64 re.tal.b, .int .i64 ((T.node re rl rr).sum.k), .int .u64 ((T.node re rl rr).sum.a), .int .u64 ((T.node re rl rr).sum.b), .pointer prl, .pointer prr, .int .i64 (((T.node re rl rr).size : Nat) : Int), .int .i64 (((T.node re rl rr).high : Nat) : Int)].toArray) [(1, 0), (1, 1), (1, 2), (1, 3), (1, 4), (1, 5), (1, 6), (1, 7), (1, 8), (1, 9), (1, 10), (1, 11), (1, 12), (2, 13), (0, 14), (0, 15), (3, 16)] 17 (by kernel_rfl) (by kernel_rfl) ?_
      have st17 := st15.drew
      refine RS_seg 13 [.p (.pointer (some ⟨gn, 0, none⟩)), .p (.pointer (some ⟨bt, 0, none⟩)), .p (.pointer (some ⟨bt, 0, none⟩)), .p (.pointer (some ⟨bt, 3, none⟩)), .l 80 (.pointer (some ⟨bt, 3, none⟩)) (.func (.func 101) #[.pointer (some ⟨bm, 0, none⟩)] #[]), .p (.pointer (some ⟨gn, 0, none⟩)), .p (.pointer (some ⟨gn, 0, none⟩)), .p (.pointer (some ⟨gn, 9, none⟩)), .l 32 (.pointer (some ⟨gn, 9, none⟩)) (.agg #[.int .i64 e.tal.k, .int .u64 e.tal.a, .int .u64 e.tal.b]), .p (.pointer (some ⟨gr, 0, none⟩)), .p (.pointer (some ⟨gr, 0, none⟩)), .p (.pointer (some ⟨gr, 9, none⟩)), .l 32 (.pointer (some ⟨gr, 9, none⟩)) (.agg #[.int .i64 ((T.node re rl rr).sum.k), .int .u64 ((T.node re rl rr).sum.a), .int .u64 ((T.node re rl rr).sum.b)])] [9, 62, 66, 70, 74] (by kernel_rfl) (by kernel_rfl) (⟨st17.get 0 rfl, htb.ext st17.ext hnt, hbr.ext st17.ext hnr⟩) (by kernel_rfl) (fun _ => by kernel_rfl) (by kernel_rfl : pick _ _ = some [(9, .pointer (some ⟨gn, 0, none⟩)), (62, .pointer (some ⟨gn, 0, none⟩)), (66, .func (.func 101) #[.pointer (some ⟨bm, 0, none⟩)] #[]), (70, .agg #[.int .i64 e.tal.k, .int .u64 e.tal.a, .int .u64 e.tal.b]), (74, .agg #[.int .i64 ((T.node re rl rr).sum.k), .int .u64 ((T.node re rl rr).sum.a), .int .u64 ((T.node re rl rr).sum.b)])]) (fun _ hS => ⟨ld1b (hS.2.1) nagg_80 rfl, ldNb (hS.1) agg_32 rfl rfl, ldNb (hS.2.2) agg_32 rfl rfl, trivial⟩) ?_
      refine RS_e rfl rfl (ef_call (k := 101) (args := [.pointer (some ⟨bm, 0, none⟩), .agg #[.int .i64 e.tal.k, .int .u64 e.tal.a, .int .u64 e.tal.b], .agg #[.int .i64 ((T.node re rl rr).sum.k), .int .u64 ((T.node re rl rr).sum.a), .int .u64 ((T.node re rl rr).sum.b)]]) (meter_join e.tal (T.node re rl rr).sum bm (j) _ (st17.get 1 rfl)) body_101 (by kernel_rfl)) ?_
      rintro _ w18 ⟨_, rfl, rfl, hbj, hx20⟩
      have st19 := st17.turned 1 rfl (.inl (by simp)) hbj hx20
      have st21 : St [bm] w w18 [(gn, 181, [.string e.key, .string e.key, .int .i64 e.c, .int .i64 e.n, .string e.val, .bool e.dead, .int .i64 e.tal.k, .int .u64 e.tal.a, .int .u64 e.tal.b, .int .i64 e.tal.k, .int .u64 e.tal.a, .int .u64 e.tal.b, .pointer none, .pointer (some ⟨gr, 0, none⟩), .int .i64 (IntKind.i64.wrap ((IntKind.i64.wrap (((T.nil.size : Nat) : Int) + 1)) + (((T.node re rl rr).size : Nat) : Int))), .int .i64 (IntKind.i64.wrap (1 + (if (((T.node re rl rr).high : Nat) : Int) > ((T.nil.high : Nat) : Int) then (((T.node re rl rr).high : Nat) : Int) else ((T.nil.high : Nat) : Int))))]), (bm, 205, [.int .i64 (IntKind.i64.wrap (j + 1))])] := st19
      refine ⟨⟨st21.get 0 rfl, htb.ext st21.ext hnt, hbr.ext st21.ext hnr⟩, ?_⟩
      refine RS_segP 2 [.p (.pointer (some ⟨gn, 0, none⟩)), .p (.pointer (some ⟨gn, 9, none⟩))] [9, 75, 77] (by kernel_rfl) (by kernel_rfl) (by kernel_rfl) (fun _ => by kernel_rfl) (by kernel_rfl : pick _ _ = some [(9, .pointer (some ⟨gn, 0, none⟩)), (75, .agg #[.int .i64 ((e.tal.join (T.node re rl rr).sum).k), .int .u64 ((e.tal.join (T.node re rl rr).sum).a), .int .u64 ((e.tal.join (T.node re rl rr).sum).b)]), (77, .pointer (some ⟨gn, 9, none⟩))]) (fun _ => trivial) ?_
      refine RS_f rfl rfl (ef_store st21 rfl rfl rfl size_32 0 rfl rfl rfl rfl (.inr hgn)) ?_
      rintro _ w22 ⟨rfl, st23, hx24⟩
      replace st23 : St [bm] w w22 [(gn, 181, [.string e.key, .string e.key, .int .i64 e.c, .int .i64 e.n, .string e.val, .bool e.dead, .int .i64 e.tal.k, .int .u64 e.tal.a, .int .u64 e.tal.b, .int .i64 ((e.tal.join (T.node re rl rr).sum).k), .int .u64 ((e.tal.join (T.node re rl rr).sum).a), .int .u64 ((e.tal.join (T.node re rl rr).sum).b), .pointer none, .pointer (some ⟨gr, 0, none⟩), .int .i64 (IntKind.i64.wrap ((IntKind.i64.wrap (((T.nil.size : Nat) : Int) + 1)) + (((T.node re rl rr).size : Nat) : Int))), .int .i64 (IntKind.i64.wrap (1 + (if (((T.node re rl rr).high : Nat) : Int) > ((T.nil.high : Nat) : Int) then (((T.node re rl rr).high : Nat) : Int) else ((T.nil.high : Nat) : Int))))]), (bm, 205, [.int .i64 (IntKind.i64.wrap (j + 1))])] := st23
      refine RS_pick [9] (by kernel_rfl : pick _ _ = some [(9, .pointer (some ⟨gn, 0, none⟩))]) ?_
      refine RS_nil ?_
      refine n_then ?_
      refine W_seq ?_
      refine W_region ?_
      refine RP_seg 2 [.p (.pointer (some ⟨gn, 0, none⟩)), .p (.pointer (some ⟨gn, 0, none⟩))] [8] (by kernel_rfl) (fun _ => by kernel_rfl) (by kernel_rfl : pick _ _ = some [(8, .pointer (some ⟨gn, 0, none⟩))]) (trivial) ?_
      refine RP_pick [8] (by kernel_rfl : pick _ _ = some [(8, .pointer (some ⟨gn, 0, none⟩))]) ?_
      refine RP_nil ?_
      refine n_then ?_
      refine W_ret ?_
      refine ret_of (P := Tryd.prog) (fn := Tryd.f147) (m := [(8, .pointer (some ⟨gn, 0, none⟩))]) (w := w22) (res1 rfl (rv_tmp rfl)) ?_
      -- return 0: .pointer (some ⟨gn, 0, none⟩)
      exact ⟨gn, rfl, hgn, ⟨gn, _, _, rfl, by rw [T.size, T.high, ← wsz, ← whi]; exact st23.get 0 rfl, hl'.to st23.ext hno, hr'.to st23.ext hno⟩, ⟨htb.ext st23.ext hnt, st23.get 1 rfl⟩, st23.ext⟩
  | node le ll lr =>
    obtain ⟨gl, pll, plr, rfl, hbl, -, -⟩ := hl
    have hnl : gl ∉ [bm] := by simpa using (hbl.ne_ hT.m (by decide))
    cases r with
    | nil =>
      obtain rfl : pr = none := hr
      refine CR_enter Tryd.func147 rfl Tryd.ntmps147 rfl ?_
      refine W_seq ?_
      refine W_region ?_
      refine RP_seg 1 [.p (.pointer none)] [0, 1, 2, 3] (by kernel_rfl) (fun _ => by kernel_rfl) (by kernel_rfl : pick _ _ = some [(0, .pointer (some ⟨bt, 0, none⟩)), (1, .pointer (some ⟨gx, 0, none⟩)), (2, .pointer (some ⟨gl, 0, none⟩)), (3, .pointer none)]) (trivial) ?_
      refine RP_pick [0, 1, 2, 3] (by kernel_rfl : pick _ _ = some [(0, .pointer (some ⟨bt, 0, none⟩)), (1, .pointer (some ⟨gx, 0, none⟩)), (2, .pointer (some ⟨gl, 0, none⟩)), (3, .pointer none)]) ?_
      refine RP_nil ?_
      refine n_then ?_
      refine W_seq ?_
      -- region 1 draws: [(1, 0), (1, 1), (1, 2), (1, 3), (1, 4), (1, 5), (1, 6), (1, 7), (1, 8), (1, 9), (1, 10), (1, 11), (1, 12), (1, 13), (1, 14), (1, 15), (1, 16), (1, 17), (1, 18), (1, 21), (1, 24), (1, 26), (2, 19), (1, 20), (2, 22), (1, 23), (2, 25), (2, 27), (1, 28), (1, 29), (1, 30), (2, 31), (0, 32)]
      refine W_regionS (fun w' => Blk w' gx 181 [.string e.key, .string e.key, .int .i64 e.c, .int .i64 e.n, .string e.val, .bool e.dead, .int .i64 e.tal.k, .int .u64 e.tal.a, .int .u64 e.tal.b, .int .i64 s.k, .int .u64 s.a, .int .u64 s.b, .pointer ql, .pointer qr, .int .i64 m0, .int .i64 h0].toArray) [(1, 0), (1, 1), (1, 2), (1, 3), (1, 4), (1, 5), (1, 6), (1, 7), (1, 8), (1, 9), (1, 10), (1, 11), (1, 12), (1, 13), (1, 14), (1, 15), (1, 16), (1, 17), (1, 18), (1, 21), (1, 24), (1, 26), (2, 19), (1, 20), (2, 22), (1, 23), (2, 25), (2, 27), (1, 28), (1, 29), (1, 30), (2, 31), (0, 32)] 33 (by kernel_rfl) (by kernel_rfl) ?_
      have st1 := st.drew
      refine RS_seg 22 [.p (.pointer (some ⟨gx, 0, none⟩)), .p (.pointer (some ⟨gx, 0, none⟩)), .p (.pointer (some ⟨gx, 0, none⟩)), .l 9 (.pointer (some ⟨gx, 0, none⟩)) (.string e.key), .p (.pointer (some ⟨gx, 0, none⟩)), .p (.pointer (some ⟨gx, 0, none⟩)), .p (.pointer (some ⟨gx, 1, none⟩)), .l 61 (.pointer (some ⟨gx, 1, none⟩)) (.agg #[.string e.key, .int .i64 e.c, .int .i64 e.n, .string e.val, .bool e.dead]), .p (.pointer (some ⟨gx, 0, none⟩)), .p (.pointer (some ⟨gx, 0, none⟩)), .p (.pointer (some ⟨gx, 6, none⟩)), .l 32 (.pointer (some ⟨gx, 6, none⟩)) (.agg #[.int .i64 e.tal.k, .int .u64 e.tal.a, .int .u64 e.tal.b]), .p (.pointer (some ⟨gx, 0, none⟩)), .p (.pointer (some ⟨gx, 0, none⟩)), .p (.pointer (some ⟨gx, 6, none⟩)), .l 32 (.pointer (some ⟨gx, 6, none⟩)) (.agg #[.int .i64 e.tal.k, .int .u64 e.tal.a, .int .u64 e.tal.b]), .p (.pointer (some ⟨gl, 0, none⟩)), .p (.pointer none), .p (.pointer (some ⟨gl, 0, none⟩)), .p (.pointer none), .p (.pointer (some ⟨gl, 0, none⟩)), .p (.pointer none)] [0, 2, 3, 13, 17, 21, 25, 26, 27, 28, 31, 34, 36] (by kernel_rfl) (by kernel_rfl) (hx.ext st1.ext hnx) (by kernel_rfl) (fun _ => by kernel_rfl) (by kernel_rfl : pick _ _ = some [(0, .pointer (some ⟨bt, 0, none⟩)), (2, .pointer (some ⟨gl, 0, none⟩)), (3, .pointer none), (13, .string e.key), (17, .agg #[.string e.key, .int .i64 e.c, .int .i64 e.n, .string e.val, .bool e.dead]), (21, .agg #[.int .i64 e.tal.k, .int .u64 e.tal.a, .int .u64 e.tal.b]), (25, .agg #[.int .i64 e.tal.k, .int .u64 e.tal.a, .int .u64 e.tal.b]), (26, .pointer (some ⟨gl, 0, none⟩)), (27, .pointer none), (28, .pointer (some ⟨gl, 0, none⟩)), (31, .pointer none), (34, .pointer (some ⟨gl, 0, none⟩)), (36, .pointer none)]) (fun _ hS => ⟨ld1b (hS) nagg_9 rfl, ldNb (hS) agg_61 rfl rfl, ldNb (hS) agg_32 rfl rfl, ldNb (hS) agg_32 rfl rfl, trivial⟩) ?_
      refine RS_e rfl rfl (ef_call (k := 116) (args := [.pointer (some ⟨gl, 0, none⟩)]) (many_cr (hl'.to st1.ext hno)) body_116 (by kernel_rfl)) ?_
      rintro _ _ ⟨_, rfl, rfl, rfl⟩
      refine ⟨hx.ext st1.ext hnx, ?_⟩
      refine RS_seg 1 [.p (.int .i64 (IntKind.i64.wrap ((((T.node le ll lr).size : Nat) : Int) + 1)))] [0, 2, 3, 13, 17, 21, 25, 26, 27, 30, 31, 34, 36] (by kernel_rfl) (by kernel_rfl) (hx.ext st1.ext hnx) (by kernel_rfl) (fun _ => by kernel_rfl) (by kernel_rfl : pick _ _ = some [(0, .pointer (some ⟨bt, 0, none⟩)), (2, .pointer (some ⟨gl, 0, none⟩)), (3, .pointer none), (13, .string e.key), (17, .agg #[.string e.key, .int .i64 e.c, .int .i64 e.n, .string e.val, .bool e.dead]), (21, .agg #[.int .i64 e.tal.k, .int .u64 e.tal.a, .int .u64 e.tal.b]), (25, .agg #[.int .i64 e.tal.k, .int .u64 e.tal.a, .int .u64 e.tal.b]), (26, .pointer (some ⟨gl, 0, none⟩)), (27, .pointer none), (30, .int .i64 (IntKind.i64.wrap ((((T.node le ll lr).size : Nat) : Int) + 1))), (31, .pointer none), (34, .pointer (some ⟨gl, 0, none⟩)), (36, .pointer none)]) (fun _ hS => trivial) ?_
      refine RS_e rfl rfl (ef_call (k := 116) (args := [.pointer none]) (many_cr (hr'.to st1.ext hno)) body_116 (by kernel_rfl)) ?_
      rintro _ _ ⟨_, rfl, rfl, rfl⟩
      refine ⟨hx.ext st1.ext hnx, ?_⟩
      refine RS_seg 1 [.p (.int .i64 (IntKind.i64.wrap ((IntKind.i64.wrap ((((T.node le ll lr).size : Nat) : Int) + 1)) + ((T.nil.size : Nat) : Int))))] [0, 2, 3, 13, 17, 21, 25, 26, 27, 33, 34, 36] (by kernel_rfl) (by kernel_rfl) (hx.ext st1.ext hnx) (by kernel_rfl) (fun _ => by kernel_rfl) (by kernel_rfl : pick _ _ = some [(0, .pointer (some ⟨bt, 0, none⟩)), (2, .pointer (some ⟨gl, 0, none⟩)), (3, .pointer none), (13, .string e.key), (17, .agg #[.string e.key, .int .i64 e.c, .int .i64 e.n, .string e.val, .bool e.dead]), (21, .agg #[.int .i64 e.tal.k, .int .u64 e.tal.a, .int .u64 e.tal.b]), (25, .agg #[.int .i64 e.tal.k, .int .u64 e.tal.a, .int .u64 e.tal.b]), (26, .pointer (some ⟨gl, 0, none⟩)), (27, .pointer none), (33, .int .i64 (IntKind.i64.wrap ((IntKind.i64.wrap ((((T.node le ll lr).size : Nat) : Int) + 1)) + ((T.nil.size : Nat) : Int)))), (34, .pointer (some ⟨gl, 0, none⟩)), (36, .pointer none)]) (fun _ hS => trivial) ?_
      refine RS_e rfl rfl (ef_call (k := 155) (args := [.pointer (some ⟨gl, 0, none⟩)]) (high_cr (hl'.to st1.ext hno)) body_155 (by kernel_rfl)) ?_
      rintro _ _ ⟨_, rfl, rfl, rfl⟩
      refine ⟨hx.ext st1.ext hnx, ?_⟩
      refine RS_e rfl rfl (ef_call (k := 155) (args := [.pointer none]) (high_cr (hr'.to st1.ext hno)) body_155 (by kernel_rfl)) ?_
      rintro _ _ ⟨_, rfl, rfl, rfl⟩
      refine ⟨hx.ext st1.ext hnx, ?_⟩
      refine RS_seg 3 [.p (.int .i64 (if ((T.nil.high : Nat) : Int) > (((T.node le ll lr).high : Nat) : Int) then ((T.nil.high : Nat) : Int) else (((T.node le ll lr).high : Nat) : Int))), .p (.int .i64 (IntKind.i64.wrap (1 + (if ((T.nil.high : Nat) : Int) > (((T.node le ll lr).high : Nat) : Int) then ((T.nil.high : Nat) : Int) else (((T.node le ll lr).high : Nat) : Int))))), .p (.agg #[.string e.key, .string e.key, .int .i64 e.c, .int .i64 e.n, .string e.val, .bool e.dead, .int .i64 e.tal.k, .int .u64 e.tal.a, .int .u64 e.tal.b, .int .i64 e.tal.k, .int .u64 e.tal.a, .int .u64 e.tal.b, .pointer (some ⟨gl, 0, none⟩), .pointer none, .int .i64 (IntKind.i64.wrap ((IntKind.i64.wrap ((((T.node le ll lr).size : Nat) : Int) + 1)) + ((T.nil.size : Nat) : Int))), .int .i64 (IntKind.i64.wrap (1 + (if ((T.nil.high : Nat) : Int) > (((T.node le ll lr).high : Nat) : Int) then ((T.nil.high : Nat) : Int) else (((T.node le ll lr).high : Nat) : Int))))])] [0, 2, 3, 40] (by kernel_rfl) (by kernel_rfl) (hx.ext st1.ext hnx) (by kernel_rfl) (fun _ => by kernel_rfl) (by kernel_rfl : pick _ _ = some [(0, .pointer (some ⟨bt, 0, none⟩)), (2, .pointer (some ⟨gl, 0, none⟩)), (3, .pointer none), (40, .agg #[.string e.key, .string e.key, .int .i64 e.c, .int .i64 e.n, .string e.val, .bool e.dead, .int .i64 e.tal.k, .int .u64 e.tal.a, .int .u64 e.tal.b, .int .i64 e.tal.k, .int .u64 e.tal.a, .int .u64 e.tal.b, .pointer (some ⟨gl, 0, none⟩), .pointer none, .int .i64 (IntKind.i64.wrap ((IntKind.i64.wrap ((((T.node le ll lr).size : Nat) : Int) + 1)) + ((T.nil.size : Nat) : Int))), .int .i64 (IntKind.i64.wrap (1 + (if ((T.nil.high : Nat) : Int) > (((T.node le ll lr).high : Nat) : Int) then ((T.nil.high : Nat) : Int) else (((T.node le ll lr).high : Nat) : Int))))])]) (fun _ hS => trivial) ?_
      refine RS_e rfl rfl (ef_box st1 rfl rfl) ?_
      rintro _ w14 ⟨gn, rfl, hgn, hgn', st15, hx16⟩
      replace st15 : St [bm] w w14 [(gn, 181, [.string e.key, .string e.key, .int .i64 e.c, .int .i64 e.n, .string e.val, .bool e.dead, .int .i64 e.tal.k, .int .u64 e.tal.a, .int .u64 e.tal.b, .int .i64 e.tal.k, .int .u64 e.tal.a, .int .u64 e.tal.b, .pointer (some ⟨gl, 0, none⟩), .pointer none, .int .i64 (IntKind.i64.wrap ((IntKind.i64.wrap ((((T.node le ll lr).size : Nat) : Int) + 1)) + ((T.nil.size : Nat) : Int))), .int .i64 (IntKind.i64.wrap (1 + (if ((T.nil.high : Nat) : Int) > (((T.node le ll lr).high : Nat) : Int) then ((T.nil.high : Nat) : Int) else (((T.node le ll lr).high : Nat) : Int))))]), (bm, 205, [.int .i64 j])] := st15
      refine ⟨hx.ext st15.ext hnx, ?_⟩
      refine RS_segP 1 [.p (.pointer (some ⟨gn, 0, none⟩))] [0, 2, 3, 9] (by kernel_rfl) (by kernel_rfl) (by kernel_rfl) (fun _ => by kernel_rfl) (by kernel_rfl : pick _ _ = some [(0, .pointer (some ⟨bt, 0, none⟩)), (2, .pointer (some ⟨gl, 0, none⟩)), (3, .pointer none), (9, .pointer (some ⟨gn, 0, none⟩))]) (fun _ => trivial) ?_
      refine RS_pick [0, 2, 3, 9] (by kernel_rfl : pick _ _ = some [(0, .pointer (some ⟨bt, 0, none⟩)), (2, .pointer (some ⟨gl, 0, none⟩)), (3, .pointer none), (9, .pointer (some ⟨gn, 0, none⟩))]) ?_
      refine RS_nil ?_
      refine n_then ?_
      refine W_seq ?_
      refine W_seq ?_
      refine W_region ?_
      refine RP_seg 2 [.p (.pointer (some ⟨gl, 0, none⟩)), .p (.bool true)] [0, 2, 3, 9, 43] (by kernel_rfl) (fun _ => by kernel_rfl) (by kernel_rfl : pick _ _ = some [(0, .pointer (some ⟨bt, 0, none⟩)), (2, .pointer (some ⟨gl, 0, none⟩)), (3, .pointer none), (9, .pointer (some ⟨gn, 0, none⟩)), (43, .bool true)]) (trivial) ?_
      refine RP_pick [0, 2, 3, 9, 43] (by kernel_rfl : pick _ _ = some [(0, .pointer (some ⟨bt, 0, none⟩)), (2, .pointer (some ⟨gl, 0, none⟩)), (3, .pointer none), (9, .pointer (some ⟨gn, 0, none⟩)), (43, .bool true)]) ?_
      refine RP_nil ?_
      refine n_then ?_
      refine W_true rfl ?_
      -- region 3 draws: [(1, 0), (1, 1), (1, 2), (1, 3), (1, 4), (1, 5), (1, 6), (1, 7), (1, 8), (1, 9), (1, 10), (1, 11), (1, 12), (2, 13), (0, 14), (0, 15), (3, 16)]
      refine W_regionS (fun w' => Blk w' gn 181 [.string e.key, .string e.key, .int .i64 e.c, .int .i64 e.n, .string e.val, .bool e.dead, .int .i64 e.tal.k, .int .u64 e.tal.a, .int .u64 e.tal.b, .int .i64 e.tal.k, .int .u64 e.tal.a, .int .u64 e.tal.b, .pointer (some ⟨gl, 0, none⟩), .pointer none, .int .i64 (IntKind.i64.wrap ((IntKind.i64.wrap ((((T.node le ll lr).size : Nat) : Int) + 1)) + ((T.nil.size : Nat) : Int))), .int .i64 (IntKind.i64.wrap (1 + (if ((T.nil.high : Nat) : Int) > (((T.node le ll lr).high : Nat) : Int) then ((T.nil.high : Nat) : Int) else (((T.node le ll lr).high : Nat) : Int))))].toArray ∧ Blk w' bt 179 [.int .i64 0, .int .u64 0, .int .u64 0, .func (.func 101) #[.pointer (some ⟨bm, 0, none⟩)] #[], .pointer p].toArray ∧ Blk w' gl 181 [.string le.key, .string le.key, .int .i64 le.c, .int .i64 le.n, .string le.val, .bool le.dead, .int .i64 le.tal.k, .int .u64 le.tal.a, .int .u64 le.tal.b, .int .i64 ((T.node le ll lr).sum.k), .int .u64 ((T.node le ll lr).sum.a), .int .u64 ((T.node le ll lr).sum.b), .pointer pll, .pointer plr, .int .i64 (((T.node le ll lr).size : Nat) : Int), .int .i64 (((T.node le ll lr).high : Nat) : Int)].toArray) [(1, 0), (1, 1), (1, 2), (1, 3), (1, 4), (1, 5), (1, 6), (1, 7), (1, 8), (1, 9), (1, 10), (1, 11), (1, 12), (2, 13), (0, 14), (0, 15), (3, 16)] 17 (by kernel_rfl) (by kernel_rfl) ?_
      have st17 := st15.drew
      refine RS_seg 13 [.p (.pointer (some ⟨gn, 0, none⟩)), .p (.pointer (some ⟨bt, 0, none⟩)), .p (.pointer (some ⟨bt, 0, none⟩)), .p (.pointer (some ⟨bt, 3, none⟩)), .l 80 (.pointer (some ⟨bt, 3, none⟩)) (.func (.func 101) #[.pointer (some ⟨bm, 0, none⟩)] #[]), .p (.pointer (some ⟨gl, 0, none⟩)), .p (.pointer (some ⟨gl, 0, none⟩)), .p (.pointer (some ⟨gl, 9, none⟩)), .l 32 (.pointer (some ⟨gl, 9, none⟩)) (.agg #[.int .i64 ((T.node le ll lr).sum.k), .int .u64 ((T.node le ll lr).sum.a), .int .u64 ((T.node le ll lr).sum.b)]), .p (.pointer (some ⟨gn, 0, none⟩)), .p (.pointer (some ⟨gn, 0, none⟩)), .p (.pointer (some ⟨gn, 9, none⟩)), .l 32 (.pointer (some ⟨gn, 9, none⟩)) (.agg #[.int .i64 e.tal.k, .int .u64 e.tal.a, .int .u64 e.tal.b])] [0, 3, 9, 44, 48, 52, 56] (by kernel_rfl) (by kernel_rfl) (⟨st17.get 0 rfl, htb.ext st17.ext hnt, hbl.ext st17.ext hnl⟩) (by kernel_rfl) (fun _ => by kernel_rfl) (by kernel_rfl : pick _ _ = some [(0, .pointer (some ⟨bt, 0, none⟩)), (3, .pointer none), (9, .pointer (some ⟨gn, 0, none⟩)), (44, .pointer (some ⟨gn, 0, none⟩)), (48, .func (.func 101) #[.pointer (some ⟨bm, 0, none⟩)] #[]), (52, .agg #[.int .i64 ((T.node le ll lr).sum.k), .int .u64 ((T.node le ll lr).sum.a), .int .u64 ((T.node le ll lr).sum.b)]), (56, .agg #[.int .i64 e.tal.k, .int .u64 e.tal.a, .int .u64 e.tal.b])]) (fun _ hS => ⟨ld1b (hS.2.1) nagg_80 rfl, ldNb (hS.2.2) agg_32 rfl rfl, ldNb (hS.1) agg_32 rfl rfl, trivial⟩) ?_
      refine RS_e rfl rfl (ef_call (k := 101) (args := [.pointer (some ⟨bm, 0, none⟩), .agg #[.int .i64 ((T.node le ll lr).sum.k), .int .u64 ((T.node le ll lr).sum.a), .int .u64 ((T.node le ll lr).sum.b)], .agg #[.int .i64 e.tal.k, .int .u64 e.tal.a, .int .u64 e.tal.b]]) (meter_join (T.node le ll lr).sum e.tal bm (j) _ (st17.get 1 rfl)) body_101 (by kernel_rfl)) ?_
      rintro _ w18 ⟨_, rfl, rfl, hbj, hx20⟩
      have st19 := st17.turned 1 rfl (.inl (by simp)) hbj hx20
      have st21 : St [bm] w w18 [(gn, 181, [.string e.key, .string e.key, .int .i64 e.c, .int .i64 e.n, .string e.val, .bool e.dead, .int .i64 e.tal.k, .int .u64 e.tal.a, .int .u64 e.tal.b, .int .i64 e.tal.k, .int .u64 e.tal.a, .int .u64 e.tal.b, .pointer (some ⟨gl, 0, none⟩), .pointer none, .int .i64 (IntKind.i64.wrap ((IntKind.i64.wrap ((((T.node le ll lr).size : Nat) : Int) + 1)) + ((T.nil.size : Nat) : Int))), .int .i64 (IntKind.i64.wrap (1 + (if ((T.nil.high : Nat) : Int) > (((T.node le ll lr).high : Nat) : Int) then ((T.nil.high : Nat) : Int) else (((T.node le ll lr).high : Nat) : Int))))]), (bm, 205, [.int .i64 (IntKind.i64.wrap (j + 1))])] := st19
      refine ⟨⟨st21.get 0 rfl, htb.ext st21.ext hnt, hbl.ext st21.ext hnl⟩, ?_⟩
      refine RS_segP 2 [.p (.pointer (some ⟨gn, 0, none⟩)), .p (.pointer (some ⟨gn, 9, none⟩))] [0, 3, 9, 57, 59] (by kernel_rfl) (by kernel_rfl) (by kernel_rfl) (fun _ => by kernel_rfl) (by kernel_rfl : pick _ _ = some [(0, .pointer (some ⟨bt, 0, none⟩)), (3, .pointer none), (9, .pointer (some ⟨gn, 0, none⟩)), (57, .agg #[.int .i64 (((T.node le ll lr).sum.join e.tal).k), .int .u64 (((T.node le ll lr).sum.join e.tal).a), .int .u64 (((T.node le ll lr).sum.join e.tal).b)]), (59, .pointer (some ⟨gn, 9, none⟩))]) (fun _ => trivial) ?_
      refine RS_f rfl rfl (ef_store st21 rfl rfl rfl size_32 0 rfl rfl rfl rfl (.inr hgn)) ?_
      rintro _ w22 ⟨rfl, st23, hx24⟩
      replace st23 : St [bm] w w22 [(gn, 181, [.string e.key, .string e.key, .int .i64 e.c, .int .i64 e.n, .string e.val, .bool e.dead, .int .i64 e.tal.k, .int .u64 e.tal.a, .int .u64 e.tal.b, .int .i64 (((T.node le ll lr).sum.join e.tal).k), .int .u64 (((T.node le ll lr).sum.join e.tal).a), .int .u64 (((T.node le ll lr).sum.join e.tal).b), .pointer (some ⟨gl, 0, none⟩), .pointer none, .int .i64 (IntKind.i64.wrap ((IntKind.i64.wrap ((((T.node le ll lr).size : Nat) : Int) + 1)) + ((T.nil.size : Nat) : Int))), .int .i64 (IntKind.i64.wrap (1 + (if ((T.nil.high : Nat) : Int) > (((T.node le ll lr).high : Nat) : Int) then ((T.nil.high : Nat) : Int) else (((T.node le ll lr).high : Nat) : Int))))]), (bm, 205, [.int .i64 (IntKind.i64.wrap (j + 1))])] := st23
      refine RS_pick [0, 3, 9] (by kernel_rfl : pick _ _ = some [(0, .pointer (some ⟨bt, 0, none⟩)), (3, .pointer none), (9, .pointer (some ⟨gn, 0, none⟩))]) ?_
      refine RS_nil ?_
      refine n_then ?_
      refine W_seq ?_
      refine W_seq ?_
      refine W_region ?_
      refine RP_seg 2 [.p (.pointer none), .p (.bool false)] [0, 3, 9, 61] (by kernel_rfl) (fun _ => by kernel_rfl) (by kernel_rfl : pick _ _ = some [(0, .pointer (some ⟨bt, 0, none⟩)), (3, .pointer none), (9, .pointer (some ⟨gn, 0, none⟩)), (61, .bool false)]) (trivial) ?_
      refine RP_pick [0, 3, 9, 61] (by kernel_rfl : pick _ _ = some [(0, .pointer (some ⟨bt, 0, none⟩)), (3, .pointer none), (9, .pointer (some ⟨gn, 0, none⟩)), (61, .bool false)]) ?_
      refine RP_nil ?_
      refine n_then ?_
      refine W_false rfl ?_
      refine W_skip ?_
      refine n_then ?_
      refine W_seq ?_
      refine W_region ?_
      refine RP_seg 2 [.p (.pointer (some ⟨gn, 0, none⟩)), .p (.pointer (some ⟨gn, 0, none⟩))] [8] (by kernel_rfl) (fun _ => by kernel_rfl) (by kernel_rfl : pick _ _ = some [(8, .pointer (some ⟨gn, 0, none⟩))]) (trivial) ?_
      refine RP_pick [8] (by kernel_rfl : pick _ _ = some [(8, .pointer (some ⟨gn, 0, none⟩))]) ?_
      refine RP_nil ?_
      refine n_then ?_
      refine W_ret ?_
      refine ret_of (P := Tryd.prog) (fn := Tryd.f147) (m := [(8, .pointer (some ⟨gn, 0, none⟩))]) (w := w22) (res1 rfl (rv_tmp rfl)) ?_
      -- return 0: .pointer (some ⟨gn, 0, none⟩)
      exact ⟨gn, rfl, hgn, ⟨gn, _, _, rfl, by rw [T.size, T.high, ← wsz, ← whi]; exact st23.get 0 rfl, hl'.to st23.ext hno, hr'.to st23.ext hno⟩, ⟨htb.ext st23.ext hnt, st23.get 1 rfl⟩, st23.ext⟩
    | node re rl rr =>
      obtain ⟨gr, prl, prr, rfl, hbr, -, -⟩ := hr
      have hnr : gr ∉ [bm] := by simpa using (hbr.ne_ hT.m (by decide))
      refine CR_enter Tryd.func147 rfl Tryd.ntmps147 rfl ?_
      refine W_seq ?_
      refine W_region ?_
      refine RP_seg 1 [.p (.pointer none)] [0, 1, 2, 3] (by kernel_rfl) (fun _ => by kernel_rfl) (by kernel_rfl : pick _ _ = some [(0, .pointer (some ⟨bt, 0, none⟩)), (1, .pointer (some ⟨gx, 0, none⟩)), (2, .pointer (some ⟨gl, 0, none⟩)), (3, .pointer (some ⟨gr, 0, none⟩))]) (trivial) ?_
      refine RP_pick [0, 1, 2, 3] (by kernel_rfl : pick _ _ = some [(0, .pointer (some ⟨bt, 0, none⟩)), (1, .pointer (some ⟨gx, 0, none⟩)), (2, .pointer (some ⟨gl, 0, none⟩)), (3, .pointer (some ⟨gr, 0, none⟩))]) ?_
      refine RP_nil ?_
      refine n_then ?_
      refine W_seq ?_
      -- region 1 draws: [(1, 0), (1, 1), (1, 2), (1, 3), (1, 4), (1, 5), (1, 6), (1, 7), (1, 8), (1, 9), (1, 10), (1, 11), (1, 12), (1, 13), (1, 14), (1, 15), (1, 16), (1, 17), (1, 18), (1, 21), (1, 24), (1, 26), (2, 19), (1, 20), (2, 22), (1, 23), (2, 25), (2, 27), (1, 28), (1, 29), (1, 30), (2, 31), (0, 32)]
      refine W_regionS (fun w' => Blk w' gx 181 [.string e.key, .string e.key, .int .i64 e.c, .int .i64 e.n, .string e.val, .bool e.dead, .int .i64 e.tal.k, .int .u64 e.tal.a, .int .u64 e.tal.b, .int .i64 s.k, .int .u64 s.a, .int .u64 s.b, .pointer ql, .pointer qr, .int .i64 m0, .int .i64 h0].toArray) [(1, 0), (1, 1), (1, 2), (1, 3), (1, 4), (1, 5), (1, 6), (1, 7), (1, 8), (1, 9), (1, 10), (1, 11), (1, 12), (1, 13), (1, 14), (1, 15), (1, 16), (1, 17), (1, 18), (1, 21), (1, 24), (1, 26), (2, 19), (1, 20), (2, 22), (1, 23), (2, 25), (2, 27), (1, 28), (1, 29), (1, 30), (2, 31), (0, 32)] 33 (by kernel_rfl) (by kernel_rfl) ?_
      have st1 := st.drew
      refine RS_seg 22 [.p (.pointer (some ⟨gx, 0, none⟩)), .p (.pointer (some ⟨gx, 0, none⟩)), .p (.pointer (some ⟨gx, 0, none⟩)), .l 9 (.pointer (some ⟨gx, 0, none⟩)) (.string e.key), .p (.pointer (some ⟨gx, 0, none⟩)), .p (.pointer (some ⟨gx, 0, none⟩)), .p (.pointer (some ⟨gx, 1, none⟩)), .l 61 (.pointer (some ⟨gx, 1, none⟩)) (.agg #[.string e.key, .int .i64 e.c, .int .i64 e.n, .string e.val, .bool e.dead]), .p (.pointer (some ⟨gx, 0, none⟩)), .p (.pointer (some ⟨gx, 0, none⟩)), .p (.pointer (some ⟨gx, 6, none⟩)), .l 32 (.pointer (some ⟨gx, 6, none⟩)) (.agg #[.int .i64 e.tal.k, .int .u64 e.tal.a, .int .u64 e.tal.b]), .p (.pointer (some ⟨gx, 0, none⟩)), .p (.pointer (some ⟨gx, 0, none⟩)), .p (.pointer (some ⟨gx, 6, none⟩)), .l 32 (.pointer (some ⟨gx, 6, none⟩)) (.agg #[.int .i64 e.tal.k, .int .u64 e.tal.a, .int .u64 e.tal.b]), .p (.pointer (some ⟨gl, 0, none⟩)), .p (.pointer (some ⟨gr, 0, none⟩)), .p (.pointer (some ⟨gl, 0, none⟩)), .p (.pointer (some ⟨gr, 0, none⟩)), .p (.pointer (some ⟨gl, 0, none⟩)), .p (.pointer (some ⟨gr, 0, none⟩))] [0, 2, 3, 13, 17, 21, 25, 26, 27, 28, 31, 34, 36] (by kernel_rfl) (by kernel_rfl) (hx.ext st1.ext hnx) (by kernel_rfl) (fun _ => by kernel_rfl) (by kernel_rfl : pick _ _ = some [(0, .pointer (some ⟨bt, 0, none⟩)), (2, .pointer (some ⟨gl, 0, none⟩)), (3, .pointer (some ⟨gr, 0, none⟩)), (13, .string e.key), (17, .agg #[.string e.key, .int .i64 e.c, .int .i64 e.n, .string e.val, .bool e.dead]), (21, .agg #[.int .i64 e.tal.k, .int .u64 e.tal.a, .int .u64 e.tal.b]), (25, .agg #[.int .i64 e.tal.k, .int .u64 e.tal.a, .int .u64 e.tal.b]), (26, .pointer (some ⟨gl, 0, none⟩)), (27, .pointer (some ⟨gr, 0, none⟩)), (28, .pointer (some ⟨gl, 0, none⟩)), (31, .pointer (some ⟨gr, 0, none⟩)), (34, .pointer (some ⟨gl, 0, none⟩)), (36, .pointer (some ⟨gr, 0, none⟩))]) (fun _ hS => ⟨ld1b (hS) nagg_9 rfl, ldNb (hS) agg_61 rfl rfl, ldNb (hS) agg_32 rfl rfl, ldNb (hS) agg_32 rfl rfl, trivial⟩) ?_
      refine RS_e rfl rfl (ef_call (k := 116) (args := [.pointer (some ⟨gl, 0, none⟩)]) (many_cr (hl'.to st1.ext hno)) body_116 (by kernel_rfl)) ?_
      rintro _ _ ⟨_, rfl, rfl, rfl⟩
      refine ⟨hx.ext st1.ext hnx, ?_⟩
      refine RS_seg 1 [.p (.int .i64 (IntKind.i64.wrap ((((T.node le ll lr).size : Nat) : Int) + 1)))] [0, 2, 3, 13, 17, 21, 25, 26, 27, 30, 31, 34, 36] (by kernel_rfl) (by kernel_rfl) (hx.ext st1.ext hnx) (by kernel_rfl) (fun _ => by kernel_rfl) (by kernel_rfl : pick _ _ = some [(0, .pointer (some ⟨bt, 0, none⟩)), (2, .pointer (some ⟨gl, 0, none⟩)), (3, .pointer (some ⟨gr, 0, none⟩)), (13, .string e.key), (17, .agg #[.string e.key, .int .i64 e.c, .int .i64 e.n, .string e.val, .bool e.dead]), (21, .agg #[.int .i64 e.tal.k, .int .u64 e.tal.a, .int .u64 e.tal.b]), (25, .agg #[.int .i64 e.tal.k, .int .u64 e.tal.a, .int .u64 e.tal.b]), (26, .pointer (some ⟨gl, 0, none⟩)), (27, .pointer (some ⟨gr, 0, none⟩)), (30, .int .i64 (IntKind.i64.wrap ((((T.node le ll lr).size : Nat) : Int) + 1))), (31, .pointer (some ⟨gr, 0, none⟩)), (34, .pointer (some ⟨gl, 0, none⟩)), (36, .pointer (some ⟨gr, 0, none⟩))]) (fun _ hS => trivial) ?_
      refine RS_e rfl rfl (ef_call (k := 116) (args := [.pointer (some ⟨gr, 0, none⟩)]) (many_cr (hr'.to st1.ext hno)) body_116 (by kernel_rfl)) ?_
      rintro _ _ ⟨_, rfl, rfl, rfl⟩
      refine ⟨hx.ext st1.ext hnx, ?_⟩
      refine RS_seg 1 [.p (.int .i64 (IntKind.i64.wrap ((IntKind.i64.wrap ((((T.node le ll lr).size : Nat) : Int) + 1)) + (((T.node re rl rr).size : Nat) : Int))))] [0, 2, 3, 13, 17, 21, 25, 26, 27, 33, 34, 36] (by kernel_rfl) (by kernel_rfl) (hx.ext st1.ext hnx) (by kernel_rfl) (fun _ => by kernel_rfl) (by kernel_rfl : pick _ _ = some [(0, .pointer (some ⟨bt, 0, none⟩)), (2, .pointer (some ⟨gl, 0, none⟩)), (3, .pointer (some ⟨gr, 0, none⟩)), (13, .string e.key), (17, .agg #[.string e.key, .int .i64 e.c, .int .i64 e.n, .string e.val, .bool e.dead]), (21, .agg #[.int .i64 e.tal.k, .int .u64 e.tal.a, .int .u64 e.tal.b]), (25, .agg #[.int .i64 e.tal.k, .int .u64 e.tal.a, .int .u64 e.tal.b]), (26, .pointer (some ⟨gl, 0, none⟩)), (27, .pointer (some ⟨gr, 0, none⟩)), (33, .int .i64 (IntKind.i64.wrap ((IntKind.i64.wrap ((((T.node le ll lr).size : Nat) : Int) + 1)) + (((T.node re rl rr).size : Nat) : Int)))), (34, .pointer (some ⟨gl, 0, none⟩)), (36, .pointer (some ⟨gr, 0, none⟩))]) (fun _ hS => trivial) ?_
      refine RS_e rfl rfl (ef_call (k := 155) (args := [.pointer (some ⟨gl, 0, none⟩)]) (high_cr (hl'.to st1.ext hno)) body_155 (by kernel_rfl)) ?_
      rintro _ _ ⟨_, rfl, rfl, rfl⟩
      refine ⟨hx.ext st1.ext hnx, ?_⟩
      refine RS_e rfl rfl (ef_call (k := 155) (args := [.pointer (some ⟨gr, 0, none⟩)]) (high_cr (hr'.to st1.ext hno)) body_155 (by kernel_rfl)) ?_
      rintro _ _ ⟨_, rfl, rfl, rfl⟩
      refine ⟨hx.ext st1.ext hnx, ?_⟩
      refine RS_seg 3 [.p (.int .i64 (if (((T.node re rl rr).high : Nat) : Int) > (((T.node le ll lr).high : Nat) : Int) then (((T.node re rl rr).high : Nat) : Int) else (((T.node le ll lr).high : Nat) : Int))), .p (.int .i64 (IntKind.i64.wrap (1 + (if (((T.node re rl rr).high : Nat) : Int) > (((T.node le ll lr).high : Nat) : Int) then (((T.node re rl rr).high : Nat) : Int) else (((T.node le ll lr).high : Nat) : Int))))), .p (.agg #[.string e.key, .string e.key, .int .i64 e.c, .int .i64 e.n, .string e.val, .bool e.dead, .int .i64 e.tal.k, .int .u64 e.tal.a, .int .u64 e.tal.b, .int .i64 e.tal.k, .int .u64 e.tal.a, .int .u64 e.tal.b, .pointer (some ⟨gl, 0, none⟩), .pointer (some ⟨gr, 0, none⟩), .int .i64 (IntKind.i64.wrap ((IntKind.i64.wrap ((((T.node le ll lr).size : Nat) : Int) + 1)) + (((T.node re rl rr).size : Nat) : Int))), .int .i64 (IntKind.i64.wrap (1 + (if (((T.node re rl rr).high : Nat) : Int) > (((T.node le ll lr).high : Nat) : Int) then (((T.node re rl rr).high : Nat) : Int) else (((T.node le ll lr).high : Nat) : Int))))])] [0, 2, 3, 40] (by kernel_rfl) (by kernel_rfl) (hx.ext st1.ext hnx) (by kernel_rfl) (fun _ => by kernel_rfl) (by kernel_rfl : pick _ _ = some [(0, .pointer (some ⟨bt, 0, none⟩)), (2, .pointer (some ⟨gl, 0, none⟩)), (3, .pointer (some ⟨gr, 0, none⟩)), (40, .agg #[.string e.key, .string e.key, .int .i64 e.c, .int .i64 e.n, .string e.val, .bool e.dead, .int .i64 e.tal.k, .int .u64 e.tal.a, .int .u64 e.tal.b, .int .i64 e.tal.k, .int .u64 e.tal.a, .int .u64 e.tal.b, .pointer (some ⟨gl, 0, none⟩), .pointer (some ⟨gr, 0, none⟩), .int .i64 (IntKind.i64.wrap ((IntKind.i64.wrap ((((T.node le ll lr).size : Nat) : Int) + 1)) + (((T.node re rl rr).size : Nat) : Int))), .int .i64 (IntKind.i64.wrap (1 + (if (((T.node re rl rr).high : Nat) : Int) > (((T.node le ll lr).high : Nat) : Int) then (((T.node re rl rr).high : Nat) : Int) else (((T.node le ll lr).high : Nat) : Int))))])]) (fun _ hS => trivial) ?_
      refine RS_e rfl rfl (ef_box st1 rfl rfl) ?_
      rintro _ w14 ⟨gn, rfl, hgn, hgn', st15, hx16⟩
      replace st15 : St [bm] w w14 [(gn, 181, [.string e.key, .string e.key, .int .i64 e.c, .int .i64 e.n, .string e.val, .bool e.dead, .int .i64 e.tal.k, .int .u64 e.tal.a, .int .u64 e.tal.b, .int .i64 e.tal.k, .int .u64 e.tal.a, .int .u64 e.tal.b, .pointer (some ⟨gl, 0, none⟩), .pointer (some ⟨gr, 0, none⟩), .int .i64 (IntKind.i64.wrap ((IntKind.i64.wrap ((((T.node le ll lr).size : Nat) : Int) + 1)) + (((T.node re rl rr).size : Nat) : Int))), .int .i64 (IntKind.i64.wrap (1 + (if (((T.node re rl rr).high : Nat) : Int) > (((T.node le ll lr).high : Nat) : Int) then (((T.node re rl rr).high : Nat) : Int) else (((T.node le ll lr).high : Nat) : Int))))]), (bm, 205, [.int .i64 j])] := st15
      refine ⟨hx.ext st15.ext hnx, ?_⟩
      refine RS_segP 1 [.p (.pointer (some ⟨gn, 0, none⟩))] [0, 2, 3, 9] (by kernel_rfl) (by kernel_rfl) (by kernel_rfl) (fun _ => by kernel_rfl) (by kernel_rfl : pick _ _ = some [(0, .pointer (some ⟨bt, 0, none⟩)), (2, .pointer (some ⟨gl, 0, none⟩)), (3, .pointer (some ⟨gr, 0, none⟩)), (9, .pointer (some ⟨gn, 0, none⟩))]) (fun _ => trivial) ?_
      refine RS_pick [0, 2, 3, 9] (by kernel_rfl : pick _ _ = some [(0, .pointer (some ⟨bt, 0, none⟩)), (2, .pointer (some ⟨gl, 0, none⟩)), (3, .pointer (some ⟨gr, 0, none⟩)), (9, .pointer (some ⟨gn, 0, none⟩))]) ?_
      refine RS_nil ?_
      refine n_then ?_
      refine W_seq ?_
      refine W_seq ?_
      refine W_region ?_
      refine RP_seg 2 [.p (.pointer (some ⟨gl, 0, none⟩)), .p (.bool true)] [0, 2, 3, 9, 43] (by kernel_rfl) (fun _ => by kernel_rfl) (by kernel_rfl : pick _ _ = some [(0, .pointer (some ⟨bt, 0, none⟩)), (2, .pointer (some ⟨gl, 0, none⟩)), (3, .pointer (some ⟨gr, 0, none⟩)), (9, .pointer (some ⟨gn, 0, none⟩)), (43, .bool true)]) (trivial) ?_
      refine RP_pick [0, 2, 3, 9, 43] (by kernel_rfl : pick _ _ = some [(0, .pointer (some ⟨bt, 0, none⟩)), (2, .pointer (some ⟨gl, 0, none⟩)), (3, .pointer (some ⟨gr, 0, none⟩)), (9, .pointer (some ⟨gn, 0, none⟩)), (43, .bool true)]) ?_
      refine RP_nil ?_
      refine n_then ?_
      refine W_true rfl ?_
      -- region 3 draws: [(1, 0), (1, 1), (1, 2), (1, 3), (1, 4), (1, 5), (1, 6), (1, 7), (1, 8), (1, 9), (1, 10), (1, 11), (1, 12), (2, 13), (0, 14), (0, 15), (3, 16)]
      refine W_regionS (fun w' => Blk w' gn 181 [.string e.key, .string e.key, .int .i64 e.c, .int .i64 e.n, .string e.val, .bool e.dead, .int .i64 e.tal.k, .int .u64 e.tal.a, .int .u64 e.tal.b, .int .i64 e.tal.k, .int .u64 e.tal.a, .int .u64 e.tal.b, .pointer (some ⟨gl, 0, none⟩), .pointer (some ⟨gr, 0, none⟩), .int .i64 (IntKind.i64.wrap ((IntKind.i64.wrap ((((T.node le ll lr).size : Nat) : Int) + 1)) + (((T.node re rl rr).size : Nat) : Int))), .int .i64 (IntKind.i64.wrap (1 + (if (((T.node re rl rr).high : Nat) : Int) > (((T.node le ll lr).high : Nat) : Int) then (((T.node re rl rr).high : Nat) : Int) else (((T.node le ll lr).high : Nat) : Int))))].toArray ∧ Blk w' bt 179 [.int .i64 0, .int .u64 0, .int .u64 0, .func (.func 101) #[.pointer (some ⟨bm, 0, none⟩)] #[], .pointer p].toArray ∧ Blk w' gl 181 [.string le.key, .string le.key, .int .i64 le.c, .int .i64 le.n, .string le.val, .bool le.dead, .int .i64 le.tal.k, .int .u64 le.tal.a, .int .u64 le.tal.b, .int .i64 ((T.node le ll lr).sum.k), .int .u64 ((T.node le ll lr).sum.a), .int .u64 ((T.node le ll lr).sum.b), .pointer pll, .pointer plr, .int .i64 (((T.node le ll lr).size : Nat) : Int), .int .i64 (((T.node le ll lr).high : Nat) : Int)].toArray) [(1, 0), (1, 1), (1, 2), (1, 3), (1, 4), (1, 5), (1, 6), (1, 7), (1, 8), (1, 9), (1, 10), (1, 11), (1, 12), (2, 13), (0, 14), (0, 15), (3, 16)] 17 (by kernel_rfl) (by kernel_rfl) ?_
      have st17 := st15.drew
      refine RS_seg 13 [.p (.pointer (some ⟨gn, 0, none⟩)), .p (.pointer (some ⟨bt, 0, none⟩)), .p (.pointer (some ⟨bt, 0, none⟩)), .p (.pointer (some ⟨bt, 3, none⟩)), .l 80 (.pointer (some ⟨bt, 3, none⟩)) (.func (.func 101) #[.pointer (some ⟨bm, 0, none⟩)] #[]), .p (.pointer (some ⟨gl, 0, none⟩)), .p (.pointer (some ⟨gl, 0, none⟩)), .p (.pointer (some ⟨gl, 9, none⟩)), .l 32 (.pointer (some ⟨gl, 9, none⟩)) (.agg #[.int .i64 ((T.node le ll lr).sum.k), .int .u64 ((T.node le ll lr).sum.a), .int .u64 ((T.node le ll lr).sum.b)]), .p (.pointer (some ⟨gn, 0, none⟩)), .p (.pointer (some ⟨gn, 0, none⟩)), .p (.pointer (some ⟨gn, 9, none⟩)), .l 32 (.pointer (some ⟨gn, 9, none⟩)) (.agg #[.int .i64 e.tal.k, .int .u64 e.tal.a, .int .u64 e.tal.b])] [0, 3, 9, 44, 48, 52, 56] (by kernel_rfl) (by kernel_rfl) (⟨st17.get 0 rfl, htb.ext st17.ext hnt, hbl.ext st17.ext hnl⟩) (by kernel_rfl) (fun _ => by kernel_rfl) (by kernel_rfl : pick _ _ = some [(0, .pointer (some ⟨bt, 0, none⟩)), (3, .pointer (some ⟨gr, 0, none⟩)), (9, .pointer (some ⟨gn, 0, none⟩)), (44, .pointer (some ⟨gn, 0, none⟩)), (48, .func (.func 101) #[.pointer (some ⟨bm, 0, none⟩)] #[]), (52, .agg #[.int .i64 ((T.node le ll lr).sum.k), .int .u64 ((T.node le ll lr).sum.a), .int .u64 ((T.node le ll lr).sum.b)]), (56, .agg #[.int .i64 e.tal.k, .int .u64 e.tal.a, .int .u64 e.tal.b])]) (fun _ hS => ⟨ld1b (hS.2.1) nagg_80 rfl, ldNb (hS.2.2) agg_32 rfl rfl, ldNb (hS.1) agg_32 rfl rfl, trivial⟩) ?_
      refine RS_e rfl rfl (ef_call (k := 101) (args := [.pointer (some ⟨bm, 0, none⟩), .agg #[.int .i64 ((T.node le ll lr).sum.k), .int .u64 ((T.node le ll lr).sum.a), .int .u64 ((T.node le ll lr).sum.b)], .agg #[.int .i64 e.tal.k, .int .u64 e.tal.a, .int .u64 e.tal.b]]) (meter_join (T.node le ll lr).sum e.tal bm (j) _ (st17.get 1 rfl)) body_101 (by kernel_rfl)) ?_
      rintro _ w18 ⟨_, rfl, rfl, hbj, hx20⟩
      have st19 := st17.turned 1 rfl (.inl (by simp)) hbj hx20
      have st21 : St [bm] w w18 [(gn, 181, [.string e.key, .string e.key, .int .i64 e.c, .int .i64 e.n, .string e.val, .bool e.dead, .int .i64 e.tal.k, .int .u64 e.tal.a, .int .u64 e.tal.b, .int .i64 e.tal.k, .int .u64 e.tal.a, .int .u64 e.tal.b, .pointer (some ⟨gl, 0, none⟩), .pointer (some ⟨gr, 0, none⟩), .int .i64 (IntKind.i64.wrap ((IntKind.i64.wrap ((((T.node le ll lr).size : Nat) : Int) + 1)) + (((T.node re rl rr).size : Nat) : Int))), .int .i64 (IntKind.i64.wrap (1 + (if (((T.node re rl rr).high : Nat) : Int) > (((T.node le ll lr).high : Nat) : Int) then (((T.node re rl rr).high : Nat) : Int) else (((T.node le ll lr).high : Nat) : Int))))]), (bm, 205, [.int .i64 (IntKind.i64.wrap (j + 1))])] := st19
      refine ⟨⟨st21.get 0 rfl, htb.ext st21.ext hnt, hbl.ext st21.ext hnl⟩, ?_⟩
      refine RS_segP 2 [.p (.pointer (some ⟨gn, 0, none⟩)), .p (.pointer (some ⟨gn, 9, none⟩))] [0, 3, 9, 57, 59] (by kernel_rfl) (by kernel_rfl) (by kernel_rfl) (fun _ => by kernel_rfl) (by kernel_rfl : pick _ _ = some [(0, .pointer (some ⟨bt, 0, none⟩)), (3, .pointer (some ⟨gr, 0, none⟩)), (9, .pointer (some ⟨gn, 0, none⟩)), (57, .agg #[.int .i64 (((T.node le ll lr).sum.join e.tal).k), .int .u64 (((T.node le ll lr).sum.join e.tal).a), .int .u64 (((T.node le ll lr).sum.join e.tal).b)]), (59, .pointer (some ⟨gn, 9, none⟩))]) (fun _ => trivial) ?_
      refine RS_f rfl rfl (ef_store st21 rfl rfl rfl size_32 0 rfl rfl rfl rfl (.inr hgn)) ?_
      rintro _ w22 ⟨rfl, st23, hx24⟩
      replace st23 : St [bm] w w22 [(gn, 181, [.string e.key, .string e.key, .int .i64 e.c, .int .i64 e.n, .string e.val, .bool e.dead, .int .i64 e.tal.k, .int .u64 e.tal.a, .int .u64 e.tal.b, .int .i64 (((T.node le ll lr).sum.join e.tal).k), .int .u64 (((T.node le ll lr).sum.join e.tal).a), .int .u64 (((T.node le ll lr).sum.join e.tal).b), .pointer (some ⟨gl, 0, none⟩), .pointer (some ⟨gr, 0, none⟩), .int .i64 (IntKind.i64.wrap ((IntKind.i64.wrap ((((T.node le ll lr).size : Nat) : Int) + 1)) + (((T.node re rl rr).size : Nat) : Int))), .int .i64 (IntKind.i64.wrap (1 + (if (((T.node re rl rr).high : Nat) : Int) > (((T.node le ll lr).high : Nat) : Int) then (((T.node re rl rr).high : Nat) : Int) else (((T.node le ll lr).high : Nat) : Int))))]), (bm, 205, [.int .i64 (IntKind.i64.wrap (j + 1))])] := st23
      refine RS_pick [0, 3, 9] (by kernel_rfl : pick _ _ = some [(0, .pointer (some ⟨bt, 0, none⟩)), (3, .pointer (some ⟨gr, 0, none⟩)), (9, .pointer (some ⟨gn, 0, none⟩))]) ?_
      refine RS_nil ?_
      refine n_then ?_
      refine W_seq ?_
      refine W_seq ?_
      refine W_region ?_
      refine RP_seg 2 [.p (.pointer (some ⟨gr, 0, none⟩)), .p (.bool true)] [0, 3, 9, 61] (by kernel_rfl) (fun _ => by kernel_rfl) (by kernel_rfl : pick _ _ = some [(0, .pointer (some ⟨bt, 0, none⟩)), (3, .pointer (some ⟨gr, 0, none⟩)), (9, .pointer (some ⟨gn, 0, none⟩)), (61, .bool true)]) (trivial) ?_
      refine RP_pick [0, 3, 9, 61] (by kernel_rfl : pick _ _ = some [(0, .pointer (some ⟨bt, 0, none⟩)), (3, .pointer (some ⟨gr, 0, none⟩)), (9, .pointer (some ⟨gn, 0, none⟩)), (61, .bool true)]) ?_
      refine RP_nil ?_
      refine n_then ?_
      refine W_true rfl ?_
      -- region 5 draws: [(1, 0), (1, 1), (1, 2), (1, 3), (1, 4), (1, 5), (1, 6), (1, 7), (1, 8), (1, 9), (1, 10), (1, 11), (1, 12), (2, 13), (0, 14), (0, 15), (3, 16)]
      refine W_regionS (fun w' => Blk w' gn 181 [.string e.key, .string e.key, .int .i64 e.c, .int .i64 e.n, .string e.val, .bool e.dead, .int .i64 e.tal.k, .int .u64 e.tal.a, .int .u64 e.tal.b, .int .i64 (((T.node le ll lr).sum.join e.tal).k), .int .u64 (((T.node le ll lr).sum.join e.tal).a), .int .u64 (((T.node le ll lr).sum.join e.tal).b), .pointer (some ⟨gl, 0, none⟩), .pointer (some ⟨gr, 0, none⟩), .int .i64 (IntKind.i64.wrap ((IntKind.i64.wrap ((((T.node le ll lr).size : Nat) : Int) + 1)) + (((T.node re rl rr).size : Nat) : Int))), .int .i64 (IntKind.i64.wrap (1 + (if (((T.node re rl rr).high : Nat) : Int) > (((T.node le ll lr).high : Nat) : Int) then (((T.node re rl rr).high : Nat) : Int) else (((T.node le ll lr).high : Nat) : Int))))].toArray ∧ Blk w' bt 179 [.int .i64 0, .int .u64 0, .int .u64 0, .func (.func 101) #[.pointer (some ⟨bm, 0, none⟩)] #[], .pointer p].toArray ∧ Blk w' gr 181 [.string re.key, .string re.key, .int .i64 re.c, .int .i64 re.n, .string re.val, .bool re.dead, .int .i64 re.tal.k, .int .u64 re.tal.a, .int .u64 re.tal.b, .int .i64 ((T.node re rl rr).sum.k), .int .u64 ((T.node re rl rr).sum.a), .int .u64 ((T.node re rl rr).sum.b), .pointer prl, .pointer prr, .int .i64 (((T.node re rl rr).size : Nat) : Int), .int .i64 (((T.node re rl rr).high : Nat) : Int)].toArray) [(1, 0), (1, 1), (1, 2), (1, 3), (1, 4), (1, 5), (1, 6), (1, 7), (1, 8), (1, 9), (1, 10), (1, 11), (1, 12), (2, 13), (0, 14), (0, 15), (3, 16)] 17 (by kernel_rfl) (by kernel_rfl) ?_
      have st25 := st23.drew
      refine RS_seg 13 [.p (.pointer (some ⟨gn, 0, none⟩)), .p (.pointer (some ⟨bt, 0, none⟩)), .p (.pointer (some ⟨bt, 0, none⟩)), .p (.pointer (some ⟨bt, 3, none⟩)), .l 80 (.pointer (some ⟨bt, 3, none⟩)) (.func (.func 101) #[.pointer (some ⟨bm, 0, none⟩)] #[]), .p (.pointer (some ⟨gn, 0, none⟩)), .p (.pointer (some ⟨gn, 0, none⟩)), .p (.pointer (some ⟨gn, 9, none⟩)), .l 32 (.pointer (some ⟨gn, 9, none⟩)) (.agg #[.int .i64 (((T.node le ll lr).sum.join e.tal).k), .int .u64 (((T.node le ll lr).sum.join e.tal).a), .int .u64 (((T.node le ll lr).sum.join e.tal).b)]), .p (.pointer (some ⟨gr, 0, none⟩)), .p (.pointer (some ⟨gr, 0, none⟩)), .p (.pointer (some ⟨gr, 9, none⟩)), .l 32 (.pointer (some ⟨gr, 9, none⟩)) (.agg #[.int .i64 ((T.node re rl rr).sum.k), .int .u64 ((T.node re rl rr).sum.a), .int .u64 ((T.node re rl rr).sum.b)])] [9, 62, 66, 70, 74] (by kernel_rfl) (by kernel_rfl) (⟨st25.get 0 rfl, htb.ext st25.ext hnt, hbr.ext st25.ext hnr⟩) (by kernel_rfl) (fun _ => by kernel_rfl) (by kernel_rfl : pick _ _ = some [(9, .pointer (some ⟨gn, 0, none⟩)), (62, .pointer (some ⟨gn, 0, none⟩)), (66, .func (.func 101) #[.pointer (some ⟨bm, 0, none⟩)] #[]), (70, .agg #[.int .i64 (((T.node le ll lr).sum.join e.tal).k), .int .u64 (((T.node le ll lr).sum.join e.tal).a), .int .u64 (((T.node le ll lr).sum.join e.tal).b)]), (74, .agg #[.int .i64 ((T.node re rl rr).sum.k), .int .u64 ((T.node re rl rr).sum.a), .int .u64 ((T.node re rl rr).sum.b)])]) (fun _ hS => ⟨ld1b (hS.2.1) nagg_80 rfl, ldNb (hS.1) agg_32 rfl rfl, ldNb (hS.2.2) agg_32 rfl rfl, trivial⟩) ?_
      refine RS_e rfl rfl (ef_call (k := 101) (args := [.pointer (some ⟨bm, 0, none⟩), .agg #[.int .i64 (((T.node le ll lr).sum.join e.tal).k), .int .u64 (((T.node le ll lr).sum.join e.tal).a), .int .u64 (((T.node le ll lr).sum.join e.tal).b)], .agg #[.int .i64 ((T.node re rl rr).sum.k), .int .u64 ((T.node re rl rr).sum.a), .int .u64 ((T.node re rl rr).sum.b)]]) (meter_join ((T.node le ll lr).sum.join e.tal) (T.node re rl rr).sum bm (IntKind.i64.wrap (j + 1)) _ (st25.get 1 rfl)) body_101 (by kernel_rfl)) ?_
      rintro _ w26 ⟨_, rfl, rfl, hbj, hx28⟩
      have st27 := st25.turned 1 rfl (.inl (by simp)) hbj hx28
      have st29 : St [bm] w w26 [(gn, 181, [.string e.key, .string e.key, .int .i64 e.c, .int .i64 e.n, .string e.val, .bool e.dead, .int .i64 e.tal.k, .int .u64 e.tal.a, .int .u64 e.tal.b, .int .i64 (((T.node le ll lr).sum.join e.tal).k), .int .u64 (((T.node le ll lr).sum.join e.tal).a), .int .u64 (((T.node le ll lr).sum.join e.tal).b), .pointer (some ⟨gl, 0, none⟩), .pointer (some ⟨gr, 0, none⟩), .int .i64 (IntKind.i64.wrap ((IntKind.i64.wrap ((((T.node le ll lr).size : Nat) : Int) + 1)) + (((T.node re rl rr).size : Nat) : Int))), .int .i64 (IntKind.i64.wrap (1 + (if (((T.node re rl rr).high : Nat) : Int) > (((T.node le ll lr).high : Nat) : Int) then (((T.node re rl rr).high : Nat) : Int) else (((T.node le ll lr).high : Nat) : Int))))]), (bm, 205, [.int .i64 (IntKind.i64.wrap (IntKind.i64.wrap (j + 1) + 1))])] := st27
      refine ⟨⟨st29.get 0 rfl, htb.ext st29.ext hnt, hbr.ext st29.ext hnr⟩, ?_⟩
      refine RS_segP 2 [.p (.pointer (some ⟨gn, 0, none⟩)), .p (.pointer (some ⟨gn, 9, none⟩))] [9, 75, 77] (by kernel_rfl) (by kernel_rfl) (by kernel_rfl) (fun _ => by kernel_rfl) (by kernel_rfl : pick _ _ = some [(9, .pointer (some ⟨gn, 0, none⟩)), (75, .agg #[.int .i64 ((((T.node le ll lr).sum.join e.tal).join (T.node re rl rr).sum).k), .int .u64 ((((T.node le ll lr).sum.join e.tal).join (T.node re rl rr).sum).a), .int .u64 ((((T.node le ll lr).sum.join e.tal).join (T.node re rl rr).sum).b)]), (77, .pointer (some ⟨gn, 9, none⟩))]) (fun _ => trivial) ?_
      refine RS_f rfl rfl (ef_store st29 rfl rfl rfl size_32 0 rfl rfl rfl rfl (.inr hgn)) ?_
      rintro _ w30 ⟨rfl, st31, hx32⟩
      replace st31 : St [bm] w w30 [(gn, 181, [.string e.key, .string e.key, .int .i64 e.c, .int .i64 e.n, .string e.val, .bool e.dead, .int .i64 e.tal.k, .int .u64 e.tal.a, .int .u64 e.tal.b, .int .i64 ((((T.node le ll lr).sum.join e.tal).join (T.node re rl rr).sum).k), .int .u64 ((((T.node le ll lr).sum.join e.tal).join (T.node re rl rr).sum).a), .int .u64 ((((T.node le ll lr).sum.join e.tal).join (T.node re rl rr).sum).b), .pointer (some ⟨gl, 0, none⟩), .pointer (some ⟨gr, 0, none⟩), .int .i64 (IntKind.i64.wrap ((IntKind.i64.wrap ((((T.node le ll lr).size : Nat) : Int) + 1)) + (((T.node re rl rr).size : Nat) : Int))), .int .i64 (IntKind.i64.wrap (1 + (if (((T.node re rl rr).high : Nat) : Int) > (((T.node le ll lr).high : Nat) : Int) then (((T.node re rl rr).high : Nat) : Int) else (((T.node le ll lr).high : Nat) : Int))))]), (bm, 205, [.int .i64 (IntKind.i64.wrap (IntKind.i64.wrap (j + 1) + 1))])] := st31
      refine RS_pick [9] (by kernel_rfl : pick _ _ = some [(9, .pointer (some ⟨gn, 0, none⟩))]) ?_
      refine RS_nil ?_
      refine n_then ?_
      refine W_seq ?_
      refine W_region ?_
      refine RP_seg 2 [.p (.pointer (some ⟨gn, 0, none⟩)), .p (.pointer (some ⟨gn, 0, none⟩))] [8] (by kernel_rfl) (fun _ => by kernel_rfl) (by kernel_rfl : pick _ _ = some [(8, .pointer (some ⟨gn, 0, none⟩))]) (trivial) ?_
      refine RP_pick [8] (by kernel_rfl : pick _ _ = some [(8, .pointer (some ⟨gn, 0, none⟩))]) ?_
      refine RP_nil ?_
      refine n_then ?_
      refine W_ret ?_
      refine ret_of (P := Tryd.prog) (fn := Tryd.f147) (m := [(8, .pointer (some ⟨gn, 0, none⟩))]) (w := w30) (res1 rfl (rv_tmp rfl)) ?_
      -- return 0: .pointer (some ⟨gn, 0, none⟩)
      exact ⟨gn, rfl, hgn, ⟨gn, _, _, rfl, by rw [T.size, T.high, ← wsz, ← whi]; exact st31.get 0 rfl, hl'.to st31.ext hno, hr'.to st31.ext hno⟩, ⟨htb.ext st31.ext hnt, st31.get 1 rfl⟩, st31.ext⟩
end Go.Proofs.YtcopemgkjbaaeaaDoor
