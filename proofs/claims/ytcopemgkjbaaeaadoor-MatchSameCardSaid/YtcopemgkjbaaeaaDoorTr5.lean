/-
  tree.Get, Put, Rank.
-/
import Derived.Test.YtcopemgkjbaaeaaDoorTr4
namespace Go.Proofs.YtcopemgkjbaaeaaDoor
set_option linter.all false
open Go.RowKit

theorem IsT.cases {w : World} {p : Option Addr} {t : T} (h : IsT w p t) : (t = .nil ∧ p = none) ∨ ∃ e l r g pl pr, t = .node e l r ∧ p = some ⟨g, 0, none⟩ ∧
    Blk w g 181 (nodeCells e (T.node e l r).sum pl pr ((T.node e l r).size : Nat) ((T.node e l r).high : Nat)) ∧ IsT w pl l ∧ IsT w pr r := by
  cases t with
  | nil => exact .inl ⟨rfl, h⟩
  | node e l r => obtain ⟨g, pl, pr, h1, h2, h3, h4⟩ := h; exact .inr ⟨e, l, r, g, pl, pr, rfl, h1, h2, h3, h4⟩
def T.get (k : ByteArray) : T → Option Ent
  | .nil => none
  | .node x l r => cond (klt k x.key) (l.get k) (cond (kgt k x.key) (r.get k) (some x))
def entV : Option Ent → Value
  | none => .agg #[.string ⟨#[]⟩, .int .i64 0, .int .i64 0, .string ⟨#[]⟩, .bool false]
  | some e => e.v
def T.rank (k : ByteArray) : T → Nat
  | .nil => 0
  | .node x l r => cond (klt x.key k) (l.size + 1 + r.rank k) (l.rank k)
theorem T.rank_le (k : ByteArray) : ∀ t : T, t.rank k ≤ t.size
  | .nil => Nat.le_refl _
  | .node x l r => by
    have := T.rank_le k l; have := T.rank_le k r
    unfold T.rank; cases klt x.key k <;> simp only [cond_true, cond_false, T.size] <;> omega


theorem rank_cr {w : World} {bt bm : Nat} {j : Int} {p : Option Addr} {t : T} (k : ByteArray) (hT : Tr w bt bm j p) (ht : IsT w p t) (hs : t.size ≤ 100000) :
    CR Tryd.prog 115 [.pointer (some ⟨bt, 0, none⟩), .string k] w fun v w' => v = .int .i64 (t.rank k : Nat) ∧ w = w' := by
  have st := St.init w []
  have htb := hT.t
  refine CR_enter Tryd.func115 rfl Tryd.ntmps115 rfl ?_
  refine W_seq ?_
  refine W_region ?_
  refine RP_seg 1 [.p (.int .i64 0)] [0, 1] (by kernel_rfl) (fun _ => by kernel_rfl) (by kernel_rfl : pick _ _ = some [(0, .pointer (some ⟨bt, 0, none⟩)), (1, .string k)]) (trivial) ?_
  refine RP_pick [0, 1] (by kernel_rfl : pick _ _ = some [(0, .pointer (some ⟨bt, 0, none⟩)), (1, .string k)]) ?_
  refine RP_nil ?_
  refine n_then ?_
  refine W_seq ?_
  refine W_region ?_
  refine RP_seg 1 [.p (.int .i64 0)] [0, 1, 5] (by kernel_rfl) (fun _ => by kernel_rfl) (by kernel_rfl : pick _ _ = some [(0, .pointer (some ⟨bt, 0, none⟩)), (1, .string k), (5, .int .i64 0)]) (trivial) ?_
  refine RP_pick [0, 1, 5] (by kernel_rfl : pick _ _ = some [(0, .pointer (some ⟨bt, 0, none⟩)), (1, .string k), (5, .int .i64 0)]) ?_
  refine RP_nil ?_
  refine n_then ?_
  refine W_seq ?_
  refine W_seq ?_
  refine W_region ?_
  refine RP_seg 5 [.p (.pointer (some ⟨bt, 0, none⟩)), .p (.pointer (some ⟨bt, 0, none⟩)), .p (.pointer (some ⟨bt, 4, none⟩)), .l 177 (.pointer (some ⟨bt, 4, none⟩)) (.pointer p), .p (.pointer p)] [1, 5, 6] (by kernel_rfl) (fun _ => by kernel_rfl) (by kernel_rfl : pick _ _ = some [(1, .string k), (5, .int .i64 0), (6, .pointer p)]) ⟨ld1b (htb.ext st.ext List.not_mem_nil) nagg_177 rfl, trivial⟩ ?_
  refine RP_pick [1, 5, 6] (by kernel_rfl : pick _ _ = some [(1, .string k), (5, .int .i64 0), (6, .pointer p)]) ?_
  refine RP_nil ?_
  refine n_then ?_
  refine W_block ?_
  refine W_loop (fun k_ m_ w_ => ∃ (p' : Option Addr) (t' : T) (i : Int) (a : Nat), t'.size = k_ ∧ m_ = [(1, .string k), (5, .int .i64 i), (6, .pointer p')] ∧ w = w_ ∧ IsT w p' t' ∧ i = ((a : Nat) : Int) ∧ a + t'.rank k = t.rank k ∧ a + t'.size ≤ 100000) ⟨p, t, 0, 0, rfl, rfl, rfl, ht, rfl, Nat.zero_add _, by omega⟩ ?_
  rintro _ _ _ ⟨p', t', i, a, rfl, rfl, rfl, ht', hi, hr2, hs3⟩
  rcases ht'.cases with ⟨rfl, rfl⟩ | ⟨x, l, r, gn, pl, pr, rfl, rfl, hbn, hl, hr⟩
  ·
    refine W_seq ?_
    refine W_seq ?_
    refine W_region ?_
    refine RP_seg 2 [.p (.pointer none), .p (.bool false)] [1, 5, 6, 12] (by kernel_rfl) (fun _ => by kernel_rfl) (by kernel_rfl : pick _ _ = some [(1, .string k), (5, .int .i64 i), (6, .pointer none), (12, .bool false)]) (trivial) ?_
    refine RP_pick [1, 5, 6, 12] (by kernel_rfl : pick _ _ = some [(1, .string k), (5, .int .i64 i), (6, .pointer none), (12, .bool false)]) ?_
    refine RP_nil ?_
    refine n_then ?_
    refine W_false rfl ?_
    refine W_exit ?_
    refine e_then <| e_loop <| e_here ?_
    refine n_then ?_
    refine W_seq ?_
    refine W_region ?_
    refine RP_seg 2 [.p (.int .i64 i), .p (.int .i64 i)] [4] (by kernel_rfl) (fun _ => by kernel_rfl) (by kernel_rfl : pick _ _ = some [(4, .int .i64 i)]) (trivial) ?_
    refine RP_pick [4] (by kernel_rfl : pick _ _ = some [(4, .int .i64 i)]) ?_
    refine RP_nil ?_
    refine n_then ?_
    refine W_ret ?_
    refine ret_of (P := Tryd.prog) (fn := Tryd.f115) (m := [(4, .int .i64 i)]) (w := w) (res1 rfl (rv_tmp rfl)) ?_
    -- return 0: .int .i64 i
    exact ⟨by rw [hi, ← hr2]; rfl, rfl⟩
  ·
    refine W_seq ?_
    refine W_seq ?_
    refine W_region ?_
    refine RP_seg 2 [.p (.pointer (some ⟨gn, 0, none⟩)), .p (.bool true)] [1, 5, 6, 12] (by kernel_rfl) (fun _ => by kernel_rfl) (by kernel_rfl : pick _ _ = some [(1, .string k), (5, .int .i64 i), (6, .pointer (some ⟨gn, 0, none⟩)), (12, .bool true)]) (trivial) ?_
    refine RP_pick [1, 5, 6, 12] (by kernel_rfl : pick _ _ = some [(1, .string k), (5, .int .i64 i), (6, .pointer (some ⟨gn, 0, none⟩)), (12, .bool true)]) ?_
    refine RP_nil ?_
    refine n_then ?_
    refine W_true rfl ?_
    refine W_skip ?_
    refine n_then ?_
    refine W_block ?_
    refine W_seq ?_
    refine W_region ?_
    refine RP_seg 6 [.p (.pointer (some ⟨gn, 0, none⟩)), .p (.pointer (some ⟨gn, 0, none⟩)), .p (.pointer (some ⟨gn, 0, none⟩)), .l 9 (.pointer (some ⟨gn, 0, none⟩)) (.string x.key), .p (.string k), .p (.bool (Op.bytesLess (x.key).toList (k).toList))] [1, 5, 6, 18] (by kernel_rfl) (fun _ => by kernel_rfl) (by kernel_rfl : pick _ _ = some [(1, .string k), (5, .int .i64 i), (6, .pointer (some ⟨gn, 0, none⟩)), (18, .bool (Op.bytesLess (x.key).toList (k).toList))]) ⟨ld1b (hbn.ext st.ext List.not_mem_nil) nagg_9 rfl, trivial⟩ ?_
    refine RP_pick [1, 5, 6, 18] (by kernel_rfl : pick _ _ = some [(1, .string k), (5, .int .i64 i), (6, .pointer (some ⟨gn, 0, none⟩)), (18, .bool (Op.bytesLess (x.key).toList (k).toList))]) ?_
    refine RP_nil ?_
    refine n_then ?_
    refine W_cond rfl (fun c18_3 => ?_) (fun c18_3 => ?_)
    ·
      refine W_seq ?_
      refine W_region ?_
      refine RP_seg 5 [.p (.int .i64 i), .p (.pointer (some ⟨gn, 0, none⟩)), .p (.pointer (some ⟨gn, 0, none⟩)), .p (.pointer (some ⟨gn, 12, none⟩)), .l 177 (.pointer (some ⟨gn, 12, none⟩)) (.pointer pl)] [1, 6, 19, 23] (by kernel_rfl) (fun _ => by kernel_rfl) (by kernel_rfl : pick _ _ = some [(1, .string k), (6, .pointer (some ⟨gn, 0, none⟩)), (19, .int .i64 i), (23, .pointer pl)]) ⟨ld1b (hbn.ext st.ext List.not_mem_nil) nagg_177 rfl, trivial⟩ ?_
      refine RP_e rfl (ef_call (k := 116) (args := [.pointer pl]) (many_cr hl) body_116 (by kernel_rfl)) ?_
      rintro _ _ ⟨_, rfl, rfl, rfl⟩
      refine RP_seg 3 [.p (.int .i64 (IntKind.i64.wrap (((l.size : Nat) : Int) + 1))), .p (.int .i64 (IntKind.i64.wrap (i + (IntKind.i64.wrap (((l.size : Nat) : Int) + 1))))), .p (.int .i64 (IntKind.i64.wrap (i + (IntKind.i64.wrap (((l.size : Nat) : Int) + 1)))))] [1, 5, 6] (by kernel_rfl) (fun _ => by kernel_rfl) (by kernel_rfl : pick _ _ = some [(1, .string k), (5, .int .i64 (IntKind.i64.wrap (i + (IntKind.i64.wrap (((l.size : Nat) : Int) + 1))))), (6, .pointer (some ⟨gn, 0, none⟩))]) (trivial) ?_
      refine RP_pick [1, 5, 6] (by kernel_rfl : pick _ _ = some [(1, .string k), (5, .int .i64 (IntKind.i64.wrap (i + (IntKind.i64.wrap (((l.size : Nat) : Int) + 1))))), (6, .pointer (some ⟨gn, 0, none⟩))]) ?_
      refine RP_nil ?_
      refine n_then ?_
      refine W_region ?_
      refine RP_seg 5 [.p (.pointer (some ⟨gn, 0, none⟩)), .p (.pointer (some ⟨gn, 0, none⟩)), .p (.pointer (some ⟨gn, 13, none⟩)), .l 177 (.pointer (some ⟨gn, 13, none⟩)) (.pointer pr), .p (.pointer pr)] [1, 5, 6] (by kernel_rfl) (fun _ => by kernel_rfl) (by kernel_rfl : pick _ _ = some [(1, .string k), (5, .int .i64 (IntKind.i64.wrap (i + (IntKind.i64.wrap (((l.size : Nat) : Int) + 1))))), (6, .pointer pr)]) ⟨ld1b (hbn.ext st.ext List.not_mem_nil) nagg_177 rfl, trivial⟩ ?_
      refine RP_pick [1, 5, 6] (by kernel_rfl : pick _ _ = some [(1, .string k), (5, .int .i64 (IntKind.i64.wrap (i + (IntKind.i64.wrap (((l.size : Nat) : Int) + 1))))), (6, .pointer pr)]) ?_
      refine RP_nil ?_
      refine n_block ?_
      simp only [T.size] at hs3
      -- back 0: [(1, .string k), (5, .int .i64 (IntKind.i64.wrap (i + (IntKind.i64.wrap (((l.size : Nat) : Int) + 1))))), (6, .pointer pr)]
      exact ⟨_, by simp only [T.size]; omega, pr, r, IntKind.i64.wrap (i + (IntKind.i64.wrap (((l.size : Nat) : Int) + 1))), a + l.size + 1, rfl, rfl, rfl, hr, by rw [wrap_small (x := (l.size : Int) + 1) (by omega) (by omega), wrap_small (by omega) (by omega)]; omega, by rw [← hr2]; simp only [T.rank, klt]; rw [c18_3]; simp only [cond_true]; omega, by omega⟩
    ·
      refine W_region ?_
      refine RP_seg 5 [.p (.pointer (some ⟨gn, 0, none⟩)), .p (.pointer (some ⟨gn, 0, none⟩)), .p (.pointer (some ⟨gn, 12, none⟩)), .l 177 (.pointer (some ⟨gn, 12, none⟩)) (.pointer pl), .p (.pointer pl)] [1, 5, 6] (by kernel_rfl) (fun _ => by kernel_rfl) (by kernel_rfl : pick _ _ = some [(1, .string k), (5, .int .i64 i), (6, .pointer pl)]) ⟨ld1b (hbn.ext st.ext List.not_mem_nil) nagg_177 rfl, trivial⟩ ?_
      refine RP_pick [1, 5, 6] (by kernel_rfl : pick _ _ = some [(1, .string k), (5, .int .i64 i), (6, .pointer pl)]) ?_
      refine RP_nil ?_
      refine n_block ?_
      -- back 1: [(1, .string k), (5, .int .i64 i), (6, .pointer pl)]
      exact ⟨_, by simp only [T.size]; omega, pl, l, i, a, rfl, rfl, rfl, hl, hi, by rw [← hr2]; simp only [T.rank, klt]; rw [c18_3]; rfl, by simp only [T.size] at hs3; omega⟩
theorem get_cr {w : World} {bt bm : Nat} {j : Int} {p : Option Addr} {t : T} (k : ByteArray) (hT : Tr w bt bm j p) (ht : IsT w p t) :
    CR Tryd.prog 65 [.pointer (some ⟨bt, 0, none⟩), .string k] w fun v w' => v = .tuple #[entV (t.get k), .bool (t.get k).isSome] ∧ Ext [] w w' := by
  have st := St.init w []
  have htb := hT.t
  refine CR_enter Tryd.func65 rfl Tryd.ntmps65 rfl ?_
  refine W_seq ?_
  refine W_region ?_
  refine RP_e rfl (ef_alloc st zero_61 rfl) ?_
  rintro _ w1 ⟨g4, rfl, hg4, hg4', st2, hx3⟩
  replace st2 : St [] w w1 [(g4, 61, [.string (⟨#[]⟩ : ByteArray), .int .i64 0, .int .i64 0, .string (⟨#[]⟩ : ByteArray), .bool false])] := st2
  refine RP_seg 1 [.p (.bool false)] [0, 1, 4] (by kernel_rfl) (fun _ => by kernel_rfl) (by kernel_rfl : pick _ _ = some [(0, .pointer (some ⟨bt, 0, none⟩)), (1, .string k), (4, .pointer (some ⟨g4, 0, none⟩))]) (trivial) ?_
  refine RP_pick [0, 1, 4] (by kernel_rfl : pick _ _ = some [(0, .pointer (some ⟨bt, 0, none⟩)), (1, .string k), (4, .pointer (some ⟨g4, 0, none⟩))]) ?_
  refine RP_nil ?_
  refine n_then ?_
  refine W_scope ?_
  refine W_seq ?_
  refine W_region ?_
  refine RP_seg 5 [.p (.pointer (some ⟨bt, 0, none⟩)), .p (.pointer (some ⟨bt, 0, none⟩)), .p (.pointer (some ⟨bt, 4, none⟩)), .l 177 (.pointer (some ⟨bt, 4, none⟩)) (.pointer p), .p (.pointer p)] [1, 4, 6] (by kernel_rfl) (fun _ => by kernel_rfl) (by kernel_rfl : pick _ _ = some [(1, .string k), (4, .pointer (some ⟨g4, 0, none⟩)), (6, .pointer p)]) ⟨ld1b (htb.ext st2.ext List.not_mem_nil) nagg_177 rfl, trivial⟩ ?_
  refine RP_pick [1, 4, 6] (by kernel_rfl : pick _ _ = some [(1, .string k), (4, .pointer (some ⟨g4, 0, none⟩)), (6, .pointer p)]) ?_
  refine RP_nil ?_
  refine n_then ?_
  refine W_seq ?_
  refine W_label ?_
  refine n_then ?_
  refine W_seq ?_
  refine W_block ?_
  refine W_loop (fun k_ m_ w_ => ∃ (p' : Option Addr) (t' : T), t'.size = k_ ∧ m_ = [(1, .string k), (4, .pointer (some ⟨g4, 0, none⟩)), (6, .pointer p')] ∧ w1 = w_ ∧ IsT w p' t' ∧ t'.get k = t.get k) ⟨p, t, rfl, rfl, rfl, ht, rfl⟩ ?_
  rintro _ _ _ ⟨p', t', rfl, rfl, rfl, ht', hg⟩
  rcases ht'.cases with ⟨rfl, rfl⟩ | ⟨x, l, r, gn, pl, pr, rfl, rfl, hbn, hl, hr⟩
  ·
    refine W_seq ?_
    refine W_seq ?_
    refine W_region ?_
    refine RP_seg 2 [.p (.pointer none), .p (.bool false)] [1, 4, 6, 13] (by kernel_rfl) (fun _ => by kernel_rfl) (by kernel_rfl : pick _ _ = some [(1, .string k), (4, .pointer (some ⟨g4, 0, none⟩)), (6, .pointer none), (13, .bool false)]) (trivial) ?_
    refine RP_pick [1, 4, 6, 13] (by kernel_rfl : pick _ _ = some [(1, .string k), (4, .pointer (some ⟨g4, 0, none⟩)), (6, .pointer none), (13, .bool false)]) ?_
    refine RP_nil ?_
    refine n_then ?_
    refine W_false rfl ?_
    refine W_exit ?_
    refine e_then <| e_loop <| e_here ?_
    refine n_then ?_
    refine W_seq ?_
    refine W_seq ?_
    refine W_region ?_
    refine RP_seg 2 [.p (.pointer none), .p (.bool true)] [4, 6, 37] (by kernel_rfl) (fun _ => by kernel_rfl) (by kernel_rfl : pick _ _ = some [(4, .pointer (some ⟨g4, 0, none⟩)), (6, .pointer none), (37, .bool true)]) (trivial) ?_
    refine RP_pick [4, 6, 37] (by kernel_rfl : pick _ _ = some [(4, .pointer (some ⟨g4, 0, none⟩)), (6, .pointer none), (37, .bool true)]) ?_
    refine RP_nil ?_
    refine n_then ?_
    refine W_true rfl ?_
    refine W_seq ?_
    refine W_region ?_
    refine RP_e rfl (ef_alloc st2 zero_61 rfl) ?_
    rintro _ w7 ⟨g10, rfl, hg10, hg10', st8, hx9⟩
    replace st8 : St [] w w7 [(g10, 61, [.string (⟨#[]⟩ : ByteArray), .int .i64 0, .int .i64 0, .string (⟨#[]⟩ : ByteArray), .bool false]), (g4, 61, [.string (⟨#[]⟩ : ByteArray), .int .i64 0, .int .i64 0, .string (⟨#[]⟩ : ByteArray), .bool false])] := st8
    refine RP_pick [4, 7] (by kernel_rfl : pick _ _ = some [(4, .pointer (some ⟨g4, 0, none⟩)), (7, .pointer (some ⟨g10, 0, none⟩))]) ?_
    refine RP_nil ?_
    refine n_then ?_
    refine W_seq ?_
    refine W_region ?_
    refine RP_seg 1 [.l 61 (.pointer (some ⟨g10, 0, none⟩)) (.agg #[.string (⟨#[]⟩ : ByteArray), .int .i64 0, .int .i64 0, .string (⟨#[]⟩ : ByteArray), .bool false])] [4, 38] (by kernel_rfl) (fun _ => by kernel_rfl) (by kernel_rfl : pick _ _ = some [(4, .pointer (some ⟨g4, 0, none⟩)), (38, .agg #[.string (⟨#[]⟩ : ByteArray), .int .i64 0, .int .i64 0, .string (⟨#[]⟩ : ByteArray), .bool false])]) ⟨ldN st8 agg_61 0 rfl rfl rfl, trivial⟩ ?_
    refine RP_e rfl (ef_store st8 rfl rfl rfl size_61 1 rfl rfl rfl rfl (.inr hg4)) ?_
    rintro _ w11 ⟨rfl, st12, hx13⟩
    replace st12 : St [] w w11 [(g10, 61, [.string (⟨#[]⟩ : ByteArray), .int .i64 0, .int .i64 0, .string (⟨#[]⟩ : ByteArray), .bool false]), (g4, 61, [.string (⟨#[]⟩ : ByteArray), .int .i64 0, .int .i64 0, .string (⟨#[]⟩ : ByteArray), .bool false])] := st12
    refine RP_seg 1 [.p (.bool false)] [4, 5] (by kernel_rfl) (fun _ => by kernel_rfl) (by kernel_rfl : pick _ _ = some [(4, .pointer (some ⟨g4, 0, none⟩)), (5, .bool false)]) (trivial) ?_
    refine RP_pick [4, 5] (by kernel_rfl : pick _ _ = some [(4, .pointer (some ⟨g4, 0, none⟩)), (5, .bool false)]) ?_
    refine RP_nil ?_
    refine n_then ?_
    refine W_ret ?_
    refine r_then <| r_scope ?_
    refine ret_of (P := Tryd.prog) (fn := Tryd.f65) (m := [(4, .pointer (some ⟨g4, 0, none⟩)), (5, .bool false)]) (w := w11) (res2 rfl (rv_cell rfl (by simpa [Instr.loadAt, Instr.sureAddr] using (ldN st12 agg_61 1 rfl rfl rfl))) (rv_tmp rfl)) ?_
    -- return 0: .agg #[.string (⟨#[]⟩ : ByteArray), .int .i64 0, .int .i64 0, .string (⟨#[]⟩ : ByteArray), .bool false], .bool false
    exact ⟨by rw [← hg]; rfl, st12.ext⟩
  ·
    refine W_seq ?_
    refine W_seq ?_
    refine W_region ?_
    refine RP_seg 2 [.p (.pointer (some ⟨gn, 0, none⟩)), .p (.bool true)] [1, 4, 6, 13] (by kernel_rfl) (fun _ => by kernel_rfl) (by kernel_rfl : pick _ _ = some [(1, .string k), (4, .pointer (some ⟨g4, 0, none⟩)), (6, .pointer (some ⟨gn, 0, none⟩)), (13, .bool true)]) (trivial) ?_
    refine RP_pick [1, 4, 6, 13] (by kernel_rfl : pick _ _ = some [(1, .string k), (4, .pointer (some ⟨g4, 0, none⟩)), (6, .pointer (some ⟨gn, 0, none⟩)), (13, .bool true)]) ?_
    refine RP_nil ?_
    refine n_then ?_
    refine W_true rfl ?_
    refine W_skip ?_
    refine n_then ?_
    refine W_block ?_
    refine W_block ?_
    refine W_seq ?_
    refine W_region ?_
    refine RP_seg 7 [.p (.string k), .p (.pointer (some ⟨gn, 0, none⟩)), .p (.pointer (some ⟨gn, 0, none⟩)), .p (.pointer (some ⟨gn, 0, none⟩)), .l 9 (.pointer (some ⟨gn, 0, none⟩)) (.string x.key), .p (.bool (Op.bytesLess (k).toList (x.key).toList)), .p (.bool (Op.bytesLess (k).toList (x.key).toList))] [1, 4, 6, 14] (by kernel_rfl) (fun _ => by kernel_rfl) (by kernel_rfl : pick _ _ = some [(1, .string k), (4, .pointer (some ⟨g4, 0, none⟩)), (6, .pointer (some ⟨gn, 0, none⟩)), (14, .bool (Op.bytesLess (k).toList (x.key).toList))]) ⟨ld1b (hbn.ext st2.ext List.not_mem_nil) nagg_9 rfl, trivial⟩ ?_
    refine RP_pick [1, 4, 6, 14] (by kernel_rfl : pick _ _ = some [(1, .string k), (4, .pointer (some ⟨g4, 0, none⟩)), (6, .pointer (some ⟨gn, 0, none⟩)), (14, .bool (Op.bytesLess (k).toList (x.key).toList))]) ?_
    refine RP_nil ?_
    refine n_then ?_
    refine W_cond rfl (fun c14_14 => ?_) (fun c14_14 => ?_)
    ·
      refine W_region ?_
      refine RP_seg 5 [.p (.pointer (some ⟨gn, 0, none⟩)), .p (.pointer (some ⟨gn, 0, none⟩)), .p (.pointer (some ⟨gn, 12, none⟩)), .l 177 (.pointer (some ⟨gn, 12, none⟩)) (.pointer pl), .p (.pointer pl)] [1, 4, 6] (by kernel_rfl) (fun _ => by kernel_rfl) (by kernel_rfl : pick _ _ = some [(1, .string k), (4, .pointer (some ⟨g4, 0, none⟩)), (6, .pointer pl)]) ⟨ld1b (hbn.ext st2.ext List.not_mem_nil) nagg_177 rfl, trivial⟩ ?_
      refine RP_pick [1, 4, 6] (by kernel_rfl : pick _ _ = some [(1, .string k), (4, .pointer (some ⟨g4, 0, none⟩)), (6, .pointer pl)]) ?_
      refine RP_nil ?_
      refine n_block ?_
      refine n_block ?_
      -- back 0: [(1, .string k), (4, .pointer (some ⟨g4, 0, none⟩)), (6, .pointer pl)]
      exact ⟨_, by simp only [T.size]; omega, pl, l, rfl, rfl, rfl, hl, by rw [← hg]; simp only [T.get, klt]; rw [c14_14]; rfl⟩
    ·
      refine W_seq ?_
      refine W_region ?_
      refine RP_seg 7 [.p (.string k), .p (.pointer (some ⟨gn, 0, none⟩)), .p (.pointer (some ⟨gn, 0, none⟩)), .p (.pointer (some ⟨gn, 0, none⟩)), .l 9 (.pointer (some ⟨gn, 0, none⟩)) (.string x.key), .p (.bool (!(Op.bytesLess (k).toList (x.key).toList || (k).toList == (x.key).toList))), .p (.bool (!(Op.bytesLess (k).toList (x.key).toList || (k).toList == (x.key).toList)))] [1, 4, 6, 25] (by kernel_rfl) (fun _ => by kernel_rfl) (by kernel_rfl : pick _ _ = some [(1, .string k), (4, .pointer (some ⟨g4, 0, none⟩)), (6, .pointer (some ⟨gn, 0, none⟩)), (25, .bool (!(Op.bytesLess (k).toList (x.key).toList || (k).toList == (x.key).toList)))]) ⟨ld1b (hbn.ext st2.ext List.not_mem_nil) nagg_9 rfl, trivial⟩ ?_
      refine RP_pick [1, 4, 6, 25] (by kernel_rfl : pick _ _ = some [(1, .string k), (4, .pointer (some ⟨g4, 0, none⟩)), (6, .pointer (some ⟨gn, 0, none⟩)), (25, .bool (!(Op.bytesLess (k).toList (x.key).toList || (k).toList == (x.key).toList)))]) ?_
      refine RP_nil ?_
      refine n_then ?_
      refine W_cond rfl (fun c25_15 => ?_) (fun c25_15 => ?_)
      ·
        refine W_region ?_
        refine RP_seg 5 [.p (.pointer (some ⟨gn, 0, none⟩)), .p (.pointer (some ⟨gn, 0, none⟩)), .p (.pointer (some ⟨gn, 13, none⟩)), .l 177 (.pointer (some ⟨gn, 13, none⟩)) (.pointer pr), .p (.pointer pr)] [1, 4, 6] (by kernel_rfl) (fun _ => by kernel_rfl) (by kernel_rfl : pick _ _ = some [(1, .string k), (4, .pointer (some ⟨g4, 0, none⟩)), (6, .pointer pr)]) ⟨ld1b (hbn.ext st2.ext List.not_mem_nil) nagg_177 rfl, trivial⟩ ?_
        refine RP_pick [1, 4, 6] (by kernel_rfl : pick _ _ = some [(1, .string k), (4, .pointer (some ⟨g4, 0, none⟩)), (6, .pointer pr)]) ?_
        refine RP_nil ?_
        refine n_block ?_
        refine n_block ?_
        -- back 1: [(1, .string k), (4, .pointer (some ⟨g4, 0, none⟩)), (6, .pointer pr)]
        exact ⟨_, by simp only [T.size]; omega, pr, r, rfl, rfl, rfl, hr, by rw [← hg]; simp only [T.get, klt, kgt]; rw [c25_15, c14_14]; rfl⟩
      ·
        refine W_exit ?_
        refine e_on rfl <| e_on rfl <| e_loop <| e_here ?_
        refine n_then ?_
        refine W_seq ?_
        refine W_seq ?_
        refine W_region ?_
        refine RP_seg 2 [.p (.pointer (some ⟨gn, 0, none⟩)), .p (.bool false)] [4, 6, 37] (by kernel_rfl) (fun _ => by kernel_rfl) (by kernel_rfl : pick _ _ = some [(4, .pointer (some ⟨g4, 0, none⟩)), (6, .pointer (some ⟨gn, 0, none⟩)), (37, .bool false)]) (trivial) ?_
        refine RP_pick [4, 6, 37] (by kernel_rfl : pick _ _ = some [(4, .pointer (some ⟨g4, 0, none⟩)), (6, .pointer (some ⟨gn, 0, none⟩)), (37, .bool false)]) ?_
        refine RP_nil ?_
        refine n_then ?_
        refine W_false rfl ?_
        refine W_skip ?_
        refine n_then ?_
        refine W_seq ?_
        refine W_region ?_
        refine RP_seg 4 [.p (.pointer (some ⟨gn, 0, none⟩)), .p (.pointer (some ⟨gn, 0, none⟩)), .p (.pointer (some ⟨gn, 1, none⟩)), .l 61 (.pointer (some ⟨gn, 1, none⟩)) (.agg #[.string x.key, .int .i64 x.c, .int .i64 x.n, .string x.val, .bool x.dead])] [4, 42] (by kernel_rfl) (fun _ => by kernel_rfl) (by kernel_rfl : pick _ _ = some [(4, .pointer (some ⟨g4, 0, none⟩)), (42, .agg #[.string x.key, .int .i64 x.c, .int .i64 x.n, .string x.val, .bool x.dead])]) ⟨ldNb (hbn.ext st2.ext List.not_mem_nil) agg_61 rfl rfl, trivial⟩ ?_
        refine RP_e rfl (ef_store st2 rfl rfl rfl size_61 0 rfl rfl rfl rfl (.inr hg4)) ?_
        rintro _ w16 ⟨rfl, st17, hx18⟩
        replace st17 : St [] w w16 [(g4, 61, [.string x.key, .int .i64 x.c, .int .i64 x.n, .string x.val, .bool x.dead])] := st17
        refine RP_seg 1 [.p (.bool true)] [4, 5] (by kernel_rfl) (fun _ => by kernel_rfl) (by kernel_rfl : pick _ _ = some [(4, .pointer (some ⟨g4, 0, none⟩)), (5, .bool true)]) (trivial) ?_
        refine RP_pick [4, 5] (by kernel_rfl : pick _ _ = some [(4, .pointer (some ⟨g4, 0, none⟩)), (5, .bool true)]) ?_
        refine RP_nil ?_
        refine n_then ?_
        refine W_ret ?_
        refine r_scope ?_
        have he : T.get k (T.node x l r) = some x := by simp only [T.get, klt, kgt]; rw [c25_15, c14_14]; rfl
        refine ret_of (P := Tryd.prog) (fn := Tryd.f65) (m := [(4, .pointer (some ⟨g4, 0, none⟩)), (5, .bool true)]) (w := w16) (res2 rfl (rv_cell rfl (by simpa [Instr.loadAt, Instr.sureAddr] using (ldN st17 agg_61 0 rfl rfl rfl))) (rv_tmp rfl)) ?_
        -- return 1: .agg #[.string x.key, .int .i64 x.c, .int .i64 x.n, .string x.val, .bool x.dead], .bool true
        exact ⟨by rw [← hg, he]; rfl, st17.ext⟩

theorem NoNode.two {w : World} {a b : Nat} {s t : TypeId} {cs ds : Array Value} (h : Blk w a s cs) (k : Blk w b t ds) (hs : s ≠ 181) (ht : t ≠ 181) : NoNode w [a, b] := fun g cs' hg hb => by
  rcases List.mem_cons.1 hg with rfl | hg
  · exact Blk.ne_ h hb hs rfl
  · simp only [List.mem_singleton] at hg; subst hg; exact Blk.ne_ k hb ht rfl
theorem treePut_cr {w : World} {bt bm : Nat} {j : Int} {p : Option Addr} {t : T} (e : Ent) (hT : Tr w bt bm j p) (ht : IsT w p t) (hs : t.size ≤ 10000) :
    CR Tryd.prog 102 [.pointer (some ⟨bt, 0, none⟩), .string e.key, e.v, e.tal.v] w fun v w' => v = .tuple #[entV (t.get e.key), .bool (t.get e.key).isSome] ∧
      ∃ p', Tr w' bt bm (addj j (T.putJ e t)) p' ∧ IsT w' p' (T.put e t) ∧ Ext [bt, bm] w w' := by
  have hno := NoNode.two hT.t hT.m (by decide) (by decide)
  have st := ((St.init w [bt, bm]).add hT.m (by simp)).add hT.t (by simpa using hT.ne)
  have htb := hT.t
  refine CR_enter Tryd.func102 rfl Tryd.ntmps102 rfl ?_
  refine W_seq ?_
  refine W_region ?_
  refine RP_e rfl (ef_box st rfl rfl) ?_
  rintro _ w1 ⟨g4, rfl, hg4, hg4', st2, hx3⟩
  replace st2 : St [bt, bm] w w1 [(g4, 61, [.string e.key, .int .i64 e.c, .int .i64 e.n, .string e.val, .bool e.dead]), (bt, 179, [.int .i64 0, .int .u64 0, .int .u64 0, .func (.func 101) #[.pointer (some ⟨bm, 0, none⟩)] #[], .pointer p]), (bm, 205, [.int .i64 j])] := st2
  refine RP_e rfl (ef_box st2 rfl rfl) ?_
  rintro _ w5 ⟨g8, rfl, hg8, hg8', st6, hx7⟩
  replace st6 : St [bt, bm] w w5 [(g8, 32, [.int .i64 e.tal.k, .int .u64 e.tal.a, .int .u64 e.tal.b]), (g4, 61, [.string e.key, .int .i64 e.c, .int .i64 e.n, .string e.val, .bool e.dead]), (bt, 179, [.int .i64 0, .int .u64 0, .int .u64 0, .func (.func 101) #[.pointer (some ⟨bm, 0, none⟩)] #[], .pointer p]), (bm, 205, [.int .i64 j])] := st6
  refine RP_e rfl (ef_alloc st6 zero_61 rfl) ?_
  rintro _ w9 ⟨g12, rfl, hg12, hg12', st10, hx11⟩
  replace st10 : St [bt, bm] w w9 [(g12, 61, [.string (⟨#[]⟩ : ByteArray), .int .i64 0, .int .i64 0, .string (⟨#[]⟩ : ByteArray), .bool false]), (g8, 32, [.int .i64 e.tal.k, .int .u64 e.tal.a, .int .u64 e.tal.b]), (g4, 61, [.string e.key, .int .i64 e.c, .int .i64 e.n, .string e.val, .bool e.dead]), (bt, 179, [.int .i64 0, .int .u64 0, .int .u64 0, .func (.func 101) #[.pointer (some ⟨bm, 0, none⟩)] #[], .pointer p]), (bm, 205, [.int .i64 j])] := st10
  refine RP_seg 1 [.p (.bool false)] [0, 1, 6, 7, 8] (by kernel_rfl) (fun _ => by kernel_rfl) (by kernel_rfl : pick _ _ = some [(0, .pointer (some ⟨bt, 0, none⟩)), (1, .string e.key), (6, .pointer (some ⟨g4, 0, none⟩)), (7, .pointer (some ⟨g8, 0, none⟩)), (8, .pointer (some ⟨g12, 0, none⟩))]) (trivial) ?_
  refine RP_pick [0, 1, 6, 7, 8] (by kernel_rfl : pick _ _ = some [(0, .pointer (some ⟨bt, 0, none⟩)), (1, .string e.key), (6, .pointer (some ⟨g4, 0, none⟩)), (7, .pointer (some ⟨g8, 0, none⟩)), (8, .pointer (some ⟨g12, 0, none⟩))]) ?_
  refine RP_nil ?_
  refine n_then ?_
  refine W_seq ?_
  refine W_region ?_
  refine RP_seg 2 [.p (.pointer (some ⟨bt, 0, none⟩)), .p (.string e.key)] [0, 1, 6, 7, 8, 13, 14] (by kernel_rfl) (fun _ => by kernel_rfl) (by kernel_rfl : pick _ _ = some [(0, .pointer (some ⟨bt, 0, none⟩)), (1, .string e.key), (6, .pointer (some ⟨g4, 0, none⟩)), (7, .pointer (some ⟨g8, 0, none⟩)), (8, .pointer (some ⟨g12, 0, none⟩)), (13, .pointer (some ⟨bt, 0, none⟩)), (14, .string e.key)]) (trivial) ?_
  refine RP_e rfl (ef_call (k := 65) (args := [.pointer (some ⟨bt, 0, none⟩), .string e.key]) (get_cr e.key ⟨st10.get 3 rfl, st10.get 4 rfl⟩ (ht.to st10.ext hno)) body_65 (by kernel_rfl)) ?_
  rintro _ w13 ⟨_, rfl, rfl, hx15⟩
  have st14 := st10.call0 hx15
  generalize ho : t.get e.key = o at *
  have hov : ∃ a b c d f, entV o = .agg #[.string a, .int .i64 b, .int .i64 c, .string d, .bool f] := by cases o with | none => exact ⟨_, _, _, _, _, rfl⟩ | some x => exact ⟨_, _, _, _, _, rfl⟩
  obtain ⟨ea, eb, ec, ed, ef, hov⟩ := hov
  rw [hov]
  refine RP_seg 3 [.p (.tuple #[.agg #[.string ea, .int .i64 eb, .int .i64 ec, .string ed, .bool ef], .bool o.isSome]), .p (.agg #[.string ea, .int .i64 eb, .int .i64 ec, .string ed, .bool ef]), .p (.bool o.isSome)] [0, 1, 6, 7, 8, 16, 17] (by kernel_rfl) (fun _ => by kernel_rfl) (by kernel_rfl : pick _ _ = some [(0, .pointer (some ⟨bt, 0, none⟩)), (1, .string e.key), (6, .pointer (some ⟨g4, 0, none⟩)), (7, .pointer (some ⟨g8, 0, none⟩)), (8, .pointer (some ⟨g12, 0, none⟩)), (16, .agg #[.string ea, .int .i64 eb, .int .i64 ec, .string ed, .bool ef]), (17, .bool o.isSome)]) (trivial) ?_
  refine RP_e rfl (ef_alloc st14 zero_61 rfl) ?_
  rintro _ w16 ⟨g19, rfl, hg19, hg19', st17, hx18⟩
  replace st17 : St [bt, bm] w w16 [(g19, 61, [.string (⟨#[]⟩ : ByteArray), .int .i64 0, .int .i64 0, .string (⟨#[]⟩ : ByteArray), .bool false]), (g12, 61, [.string (⟨#[]⟩ : ByteArray), .int .i64 0, .int .i64 0, .string (⟨#[]⟩ : ByteArray), .bool false]), (g8, 32, [.int .i64 e.tal.k, .int .u64 e.tal.a, .int .u64 e.tal.b]), (g4, 61, [.string e.key, .int .i64 e.c, .int .i64 e.n, .string e.val, .bool e.dead]), (bt, 179, [.int .i64 0, .int .u64 0, .int .u64 0, .func (.func 101) #[.pointer (some ⟨bm, 0, none⟩)] #[], .pointer p]), (bm, 205, [.int .i64 j])] := st17
  refine RP_e rfl (ef_store st17 rfl rfl rfl size_61 0 rfl rfl rfl rfl (.inr hg19)) ?_
  rintro _ w20 ⟨rfl, st21, hx22⟩
  replace st21 : St [bt, bm] w w20 [(g19, 61, [.string ea, .int .i64 eb, .int .i64 ec, .string ed, .bool ef]), (g12, 61, [.string (⟨#[]⟩ : ByteArray), .int .i64 0, .int .i64 0, .string (⟨#[]⟩ : ByteArray), .bool false]), (g8, 32, [.int .i64 e.tal.k, .int .u64 e.tal.a, .int .u64 e.tal.b]), (g4, 61, [.string e.key, .int .i64 e.c, .int .i64 e.n, .string e.val, .bool e.dead]), (bt, 179, [.int .i64 0, .int .u64 0, .int .u64 0, .func (.func 101) #[.pointer (some ⟨bm, 0, none⟩)] #[], .pointer p]), (bm, 205, [.int .i64 j])] := st21
  refine RP_seg 1 [.p (.bool o.isSome)] [0, 1, 6, 7, 8, 10, 11] (by kernel_rfl) (fun _ => by kernel_rfl) (by kernel_rfl : pick _ _ = some [(0, .pointer (some ⟨bt, 0, none⟩)), (1, .string e.key), (6, .pointer (some ⟨g4, 0, none⟩)), (7, .pointer (some ⟨g8, 0, none⟩)), (8, .pointer (some ⟨g12, 0, none⟩)), (10, .pointer (some ⟨g19, 0, none⟩)), (11, .bool o.isSome)]) (trivial) ?_
  refine RP_pick [0, 1, 6, 7, 8, 10, 11] (by kernel_rfl : pick _ _ = some [(0, .pointer (some ⟨bt, 0, none⟩)), (1, .string e.key), (6, .pointer (some ⟨g4, 0, none⟩)), (7, .pointer (some ⟨g8, 0, none⟩)), (8, .pointer (some ⟨g12, 0, none⟩)), (10, .pointer (some ⟨g19, 0, none⟩)), (11, .bool o.isSome)]) ?_
  refine RP_nil ?_
  refine n_then ?_
  refine W_seq ?_
  -- region 2 draws: [(1, 0), (1, 1), (1, 2), (1, 3), (1, 4), (1, 5), (1, 6), (1, 7), (1, 8), (1, 9), (2, 10), (2, 11), (0, 12), (0, 13), (3, 14)]
  refine W_regionS (fun w' => Blk w' g8 32 [.int .i64 e.tal.k, .int .u64 e.tal.a, .int .u64 e.tal.b].toArray ∧ Blk w' g4 61 [.string e.key, .int .i64 e.c, .int .i64 e.n, .string e.val, .bool e.dead].toArray ∧ Blk w' bt 179 [.int .i64 0, .int .u64 0, .int .u64 0, .func (.func 101) #[.pointer (some ⟨bm, 0, none⟩)] #[], .pointer p].toArray) [(1, 0), (1, 1), (1, 2), (1, 3), (1, 4), (1, 5), (1, 6), (1, 7), (1, 8), (1, 9), (2, 10), (2, 11), (0, 12), (0, 13), (3, 14)] 15 (by kernel_rfl) (by kernel_rfl) ?_
  have st23 := st21.drew
  refine RS_seg 10 [.p (.pointer (some ⟨bt, 0, none⟩)), .p (.pointer (some ⟨bt, 0, none⟩)), .p (.pointer (some ⟨bt, 0, none⟩)), .p (.pointer (some ⟨bt, 0, none⟩)), .p (.pointer (some ⟨bt, 4, none⟩)), .l 177 (.pointer (some ⟨bt, 4, none⟩)) (.pointer p), .p (.string e.key), .l 61 (.pointer (some ⟨g4, 0, none⟩)) (.agg #[.string e.key, .int .i64 e.c, .int .i64 e.n, .string e.val, .bool e.dead]), .l 32 (.pointer (some ⟨g8, 0, none⟩)) (.agg #[.int .i64 e.tal.k, .int .u64 e.tal.a, .int .u64 e.tal.b]), .p (.agg #[.string e.key, .string e.key, .int .i64 e.c, .int .i64 e.n, .string e.val, .bool e.dead, .int .i64 e.tal.k, .int .u64 e.tal.a, .int .u64 e.tal.b, .int .i64 0, .int .u64 0, .int .u64 0, .pointer none, .pointer none, .int .i64 0, .int .i64 0])] [8, 10, 11, 18, 19, 23, 27] (by kernel_rfl) (by kernel_rfl) (⟨st23.get 2 rfl, st23.get 3 rfl, st23.get 4 rfl⟩) (by kernel_rfl) (fun _ => by kernel_rfl) (by kernel_rfl : pick _ _ = some [(8, .pointer (some ⟨g12, 0, none⟩)), (10, .pointer (some ⟨g19, 0, none⟩)), (11, .bool o.isSome), (18, .pointer (some ⟨bt, 0, none⟩)), (19, .pointer (some ⟨bt, 0, none⟩)), (23, .pointer p), (27, .agg #[.string e.key, .string e.key, .int .i64 e.c, .int .i64 e.n, .string e.val, .bool e.dead, .int .i64 e.tal.k, .int .u64 e.tal.a, .int .u64 e.tal.b, .int .i64 0, .int .u64 0, .int .u64 0, .pointer none, .pointer none, .int .i64 0, .int .i64 0])]) (fun _ hS => ⟨ld1b (hS.2.2) nagg_177 rfl, ldNb (hS.2.1) agg_61 rfl rfl, ldNb (hS.1) agg_32 rfl rfl, trivial⟩) ?_
  refine RS_e rfl rfl (ef_box st23 rfl rfl) ?_
  rintro _ w24 ⟨gx, rfl, hgx, hgx', st25, hx26⟩
  replace st25 : St [bt, bm] w w24 [(gx, 181, [.string e.key, .string e.key, .int .i64 e.c, .int .i64 e.n, .string e.val, .bool e.dead, .int .i64 e.tal.k, .int .u64 e.tal.a, .int .u64 e.tal.b, .int .i64 0, .int .u64 0, .int .u64 0, .pointer none, .pointer none, .int .i64 0, .int .i64 0]), (g19, 61, [.string ea, .int .i64 eb, .int .i64 ec, .string ed, .bool ef]), (g12, 61, [.string (⟨#[]⟩ : ByteArray), .int .i64 0, .int .i64 0, .string (⟨#[]⟩ : ByteArray), .bool false]), (g8, 32, [.int .i64 e.tal.k, .int .u64 e.tal.a, .int .u64 e.tal.b]), (g4, 61, [.string e.key, .int .i64 e.c, .int .i64 e.n, .string e.val, .bool e.dead]), (bt, 179, [.int .i64 0, .int .u64 0, .int .u64 0, .func (.func 101) #[.pointer (some ⟨bm, 0, none⟩)] #[], .pointer p]), (bm, 205, [.int .i64 j])] := st25
  refine ⟨⟨st25.get 3 rfl, st25.get 4 rfl, st25.get 5 rfl⟩, ?_⟩
  refine RS_e rfl rfl (ef_call (k := 133) (args := [.pointer (some ⟨bt, 0, none⟩), .pointer p, .pointer (some ⟨gx, 0, none⟩)]) (put_cr t ⟨st25.get 5 rfl, st25.get 6 rfl⟩ (s := ⟨0, 0, 0⟩) (st25.get 0 rfl) (ht.to st25.ext hno) hs) body_133 (by kernel_rfl)) ?_
  rintro _ w27 ⟨_, rfl, gp, rfl, hi1, ⟨-, hbj⟩, hx29⟩
  have st28 := st25.turned 6 rfl (.inl (by simp)) hbj hx29
  have st30 : St [bt, bm] w w27 [(gx, 181, [.string e.key, .string e.key, .int .i64 e.c, .int .i64 e.n, .string e.val, .bool e.dead, .int .i64 e.tal.k, .int .u64 e.tal.a, .int .u64 e.tal.b, .int .i64 0, .int .u64 0, .int .u64 0, .pointer none, .pointer none, .int .i64 0, .int .i64 0]), (g19, 61, [.string ea, .int .i64 eb, .int .i64 ec, .string ed, .bool ef]), (g12, 61, [.string (⟨#[]⟩ : ByteArray), .int .i64 0, .int .i64 0, .string (⟨#[]⟩ : ByteArray), .bool false]), (g8, 32, [.int .i64 e.tal.k, .int .u64 e.tal.a, .int .u64 e.tal.b]), (g4, 61, [.string e.key, .int .i64 e.c, .int .i64 e.n, .string e.val, .bool e.dead]), (bt, 179, [.int .i64 0, .int .u64 0, .int .u64 0, .func (.func 101) #[.pointer (some ⟨bm, 0, none⟩)] #[], .pointer p]), (bm, 205, [.int .i64 (addj j (T.putJ e t))])] := st28
  refine ⟨⟨st30.get 3 rfl, st30.get 4 rfl, st30.get 5 rfl⟩, ?_⟩
  refine RS_segP 2 [.p (.pointer (some ⟨bt, 0, none⟩)), .p (.pointer (some ⟨bt, 4, none⟩))] [8, 10, 11, 29, 31] (by kernel_rfl) (by kernel_rfl) (by kernel_rfl) (fun _ => by kernel_rfl) (by kernel_rfl : pick _ _ = some [(8, .pointer (some ⟨g12, 0, none⟩)), (10, .pointer (some ⟨g19, 0, none⟩)), (11, .bool o.isSome), (29, .pointer (some ⟨gp, 0, none⟩)), (31, .pointer (some ⟨bt, 4, none⟩))]) (fun _ => trivial) ?_
  refine RS_f rfl rfl (ef_store st30 rfl rfl rfl size_177 5 rfl rfl rfl rfl (.inl (by simp))) ?_
  rintro _ w31 ⟨rfl, st32, hx33⟩
  replace st32 : St [bt, bm] w w31 [(gx, 181, [.string e.key, .string e.key, .int .i64 e.c, .int .i64 e.n, .string e.val, .bool e.dead, .int .i64 e.tal.k, .int .u64 e.tal.a, .int .u64 e.tal.b, .int .i64 0, .int .u64 0, .int .u64 0, .pointer none, .pointer none, .int .i64 0, .int .i64 0]), (g19, 61, [.string ea, .int .i64 eb, .int .i64 ec, .string ed, .bool ef]), (g12, 61, [.string (⟨#[]⟩ : ByteArray), .int .i64 0, .int .i64 0, .string (⟨#[]⟩ : ByteArray), .bool false]), (g8, 32, [.int .i64 e.tal.k, .int .u64 e.tal.a, .int .u64 e.tal.b]), (g4, 61, [.string e.key, .int .i64 e.c, .int .i64 e.n, .string e.val, .bool e.dead]), (bt, 179, [.int .i64 0, .int .u64 0, .int .u64 0, .func (.func 101) #[.pointer (some ⟨bm, 0, none⟩)] #[], .pointer (some ⟨gp, 0, none⟩)]), (bm, 205, [.int .i64 (addj j (T.putJ e t))])] := st32
  replace hi1 := hi1.to hx33 (NoNode.one (st30.get 5 rfl) (by decide))
  refine RS_pick [8, 10, 11] (by kernel_rfl : pick _ _ = some [(8, .pointer (some ⟨g12, 0, none⟩)), (10, .pointer (some ⟨g19, 0, none⟩)), (11, .bool o.isSome)]) ?_
  refine RS_nil ?_
  refine n_then ?_
  refine W_seq ?_
  refine W_region ?_
  refine RP_seg 2 [.l 61 (.pointer (some ⟨g19, 0, none⟩)) (.agg #[.string ea, .int .i64 eb, .int .i64 ec, .string ed, .bool ef]), .p (.bool o.isSome)] [8, 32, 33] (by kernel_rfl) (fun _ => by kernel_rfl) (by kernel_rfl : pick _ _ = some [(8, .pointer (some ⟨g12, 0, none⟩)), (32, .agg #[.string ea, .int .i64 eb, .int .i64 ec, .string ed, .bool ef]), (33, .bool o.isSome)]) ⟨ldN st32 agg_61 1 rfl rfl rfl, trivial⟩ ?_
  refine RP_e rfl (ef_store st32 rfl rfl rfl size_61 2 rfl rfl rfl rfl (.inr hg12)) ?_
  rintro _ w34 ⟨rfl, st35, hx36⟩
  replace st35 : St [bt, bm] w w34 [(gx, 181, [.string e.key, .string e.key, .int .i64 e.c, .int .i64 e.n, .string e.val, .bool e.dead, .int .i64 e.tal.k, .int .u64 e.tal.a, .int .u64 e.tal.b, .int .i64 0, .int .u64 0, .int .u64 0, .pointer none, .pointer none, .int .i64 0, .int .i64 0]), (g19, 61, [.string ea, .int .i64 eb, .int .i64 ec, .string ed, .bool ef]), (g12, 61, [.string ea, .int .i64 eb, .int .i64 ec, .string ed, .bool ef]), (g8, 32, [.int .i64 e.tal.k, .int .u64 e.tal.a, .int .u64 e.tal.b]), (g4, 61, [.string e.key, .int .i64 e.c, .int .i64 e.n, .string e.val, .bool e.dead]), (bt, 179, [.int .i64 0, .int .u64 0, .int .u64 0, .func (.func 101) #[.pointer (some ⟨bm, 0, none⟩)] #[], .pointer (some ⟨gp, 0, none⟩)]), (bm, 205, [.int .i64 (addj j (T.putJ e t))])] := st35
  replace hi1 := hi1.to hx36 (NoNode.one (st32.get 2 rfl) (by decide))
  refine RP_seg 1 [.p (.bool o.isSome)] [8, 9] (by kernel_rfl) (fun _ => by kernel_rfl) (by kernel_rfl : pick _ _ = some [(8, .pointer (some ⟨g12, 0, none⟩)), (9, .bool o.isSome)]) (trivial) ?_
  refine RP_pick [8, 9] (by kernel_rfl : pick _ _ = some [(8, .pointer (some ⟨g12, 0, none⟩)), (9, .bool o.isSome)]) ?_
  refine RP_nil ?_
  refine n_then ?_
  refine W_ret ?_
  refine ret_of (P := Tryd.prog) (fn := Tryd.f102) (m := [(8, .pointer (some ⟨g12, 0, none⟩)), (9, .bool o.isSome)]) (w := w34) (res2 rfl (rv_cell rfl (by simpa [Instr.loadAt, Instr.sureAddr] using (ldN st35 agg_61 2 rfl rfl rfl))) (rv_tmp rfl)) ?_
  -- return 0: .agg #[.string ea, .int .i64 eb, .int .i64 ec, .string ed, .bool ef], .bool o.isSome
  exact ⟨rfl, _, ⟨st35.get 5 rfl, st35.get 6 rfl⟩, hi1, st35.ext⟩
end Go.Proofs.YtcopemgkjbaaeaaDoor
