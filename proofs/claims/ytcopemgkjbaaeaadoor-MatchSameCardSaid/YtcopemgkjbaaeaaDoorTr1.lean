/-
  The tree's nodes in memory: many, high, over; the joins of tallies and of a Meter.
-/
import Derived.Test.YtcopemgkjbaaeaaDoorFacts
namespace Go.Proofs.YtcopemgkjbaaeaaDoor
set_option linter.all false
open Go.RowKit

/-- the cells of a node -/
def nodeCells (e : Ent) (s : Tal) (pl pr : Option Addr) (m h : Int) : Array Value :=
  #[.string e.key, .string e.key, .int .i64 e.c, .int .i64 e.n, .string e.val, .bool e.dead, .int .i64 e.tal.k, .int .u64 e.tal.a, .int .u64 e.tal.b,
    .int .i64 s.k, .int .u64 s.a, .int .u64 s.b, .pointer pl, .pointer pr, .int .i64 m, .int .i64 h]

/-- Memory holds the tree t at p. -/
def IsT (w : World) : Option Addr → T → Prop
  | p, .nil => p = none
  | p, .node e l r => ∃ (g : Nat) (pl pr : Option Addr), p = some ⟨g, 0, none⟩ ∧ Blk w g 181 (nodeCells e (T.node e l r).sum pl pr ((T.node e l r).size : Nat) ((T.node e l r).high : Nat)) ∧ IsT w pl l ∧ IsT w pr r

/-- No block of X is a node. -/
def NoNode (w : World) (X : List Nat) : Prop := ∀ g cs, g ∈ X → ¬ Blk w g 181 cs

theorem NoNode.nil (w : World) : NoNode w [] := fun _ _ h => by cases h
theorem NoNode.one {w : World} {g : Nat} {t : TypeId} {cs : Array Value} (h : Blk w g t cs) (ht : t ≠ 181) : NoNode w [g] := fun k cs' hk hb => by
  simp at hk
  exact Blk.ne_ h hb ht hk.symm

theorem IsT.ext {w w' : World} {X : List Nat} (h : Ext X w w') (hX : NoNode w X) : ∀ {t : T} {p : Option Addr}, IsT w p t → IsT w' p t
  | .nil, _, ht => ht
  | .node _ _ _, _, ⟨g, pl, pr, hp, hb, hl, hr⟩ => ⟨g, pl, pr, hp, hb.ext h fun hx => hX _ _ hx hb, IsT.ext h hX hl, IsT.ext h hX hr⟩
theorem IsT.heap {w w' : World} (hh : w'.heap = w.heap) : ∀ {t : T} {p : Option Addr}, IsT w p t → IsT w' p t
  | .nil, _, ht => ht
  | .node _ _ _, _, ⟨g, pl, pr, hp, hb, hl, hr⟩ => ⟨g, pl, pr, hp, by unfold Blk at *; rw [hh]; exact hb, IsT.heap hh hl, IsT.heap hh hr⟩
theorem IsT.to {w w' : World} {X : List Nat} {t : T} {p : Option Addr} (ht : IsT w p t) (h : Ext X w w') (hX : NoNode w X) : IsT w' p t := IsT.ext h hX ht

theorem high_cr {w : World} {p : Option Addr} {t : T} (h : IsT w p t) : CR Tryd.prog 155 [.pointer p] w fun v w' => v = .int .i64 (t.high : Nat) ∧ w = w' := by
  have st := St.init w []
  cases t with
  | nil =>
    obtain rfl : p = none := h
    refine CR_enter Tryd.func155 rfl Tryd.ntmps155 rfl ?_
    refine W_seq ?_
    refine W_region ?_
    refine RP_seg 1 [.p (.int .i64 0)] [0] (by kernel_rfl) (fun _ => by kernel_rfl) (by kernel_rfl : pick _ _ = some [(0, .pointer none)]) (trivial) ?_
    refine RP_pick [0] (by kernel_rfl : pick _ _ = some [(0, .pointer none)]) ?_
    refine RP_nil ?_
    refine n_then ?_
    refine W_seq ?_
    refine W_seq ?_
    refine W_region ?_
    refine RP_seg 2 [.p (.pointer none), .p (.bool true)] [0, 4] (by kernel_rfl) (fun _ => by kernel_rfl) (by kernel_rfl : pick _ _ = some [(0, .pointer none), (4, .bool true)]) (trivial) ?_
    refine RP_pick [0, 4] (by kernel_rfl : pick _ _ = some [(0, .pointer none), (4, .bool true)]) ?_
    refine RP_nil ?_
    refine n_then ?_
    refine W_true rfl ?_
    refine W_seq ?_
    refine W_region ?_
    refine RP_seg 1 [.p (.int .i64 0)] [2] (by kernel_rfl) (fun _ => by kernel_rfl) (by kernel_rfl : pick _ _ = some [(2, .int .i64 0)]) (trivial) ?_
    refine RP_pick [2] (by kernel_rfl : pick _ _ = some [(2, .int .i64 0)]) ?_
    refine RP_nil ?_
    refine n_then ?_
    refine W_ret ?_
    refine r_then ?_
    refine ret_of (P := Tryd.prog) (fn := Tryd.f155) (m := [(2, .int .i64 0)]) (w := w) (res1 rfl (rv_tmp rfl)) ?_
    -- return 0: .int .i64 0
    exact ⟨rfl, rfl⟩
  | node e l r =>
    obtain ⟨g, pl, pr, rfl, hb, -, -⟩ := h
    generalize ((T.node e l r).size : Nat) = mm at *
    generalize ((T.node e l r).high : Nat) = hh at *
    generalize (T.node e l r).sum = s at *
    refine CR_enter Tryd.func155 rfl Tryd.ntmps155 rfl ?_
    refine W_seq ?_
    refine W_region ?_
    refine RP_seg 1 [.p (.int .i64 0)] [0] (by kernel_rfl) (fun _ => by kernel_rfl) (by kernel_rfl : pick _ _ = some [(0, .pointer (some ⟨g, 0, none⟩))]) (trivial) ?_
    refine RP_pick [0] (by kernel_rfl : pick _ _ = some [(0, .pointer (some ⟨g, 0, none⟩))]) ?_
    refine RP_nil ?_
    refine n_then ?_
    refine W_seq ?_
    refine W_seq ?_
    refine W_region ?_
    refine RP_seg 2 [.p (.pointer (some ⟨g, 0, none⟩)), .p (.bool false)] [0, 4] (by kernel_rfl) (fun _ => by kernel_rfl) (by kernel_rfl : pick _ _ = some [(0, .pointer (some ⟨g, 0, none⟩)), (4, .bool false)]) (trivial) ?_
    refine RP_pick [0, 4] (by kernel_rfl : pick _ _ = some [(0, .pointer (some ⟨g, 0, none⟩)), (4, .bool false)]) ?_
    refine RP_nil ?_
    refine n_then ?_
    refine W_false rfl ?_
    refine W_skip ?_
    refine n_then ?_
    refine W_seq ?_
    refine W_region ?_
    refine RP_seg 5 [.p (.pointer (some ⟨g, 0, none⟩)), .p (.pointer (some ⟨g, 0, none⟩)), .p (.pointer (some ⟨g, 15, none⟩)), .l 3 (.pointer (some ⟨g, 15, none⟩)) (.int .i64 hh), .p (.int .i64 hh)] [2] (by kernel_rfl) (fun _ => by kernel_rfl) (by kernel_rfl : pick _ _ = some [(2, .int .i64 hh)]) ⟨ld1b (hb.ext st.ext List.not_mem_nil) nagg_3 rfl, trivial⟩ ?_
    refine RP_pick [2] (by kernel_rfl : pick _ _ = some [(2, .int .i64 hh)]) ?_
    refine RP_nil ?_
    refine n_then ?_
    refine W_ret ?_
    refine ret_of (P := Tryd.prog) (fn := Tryd.f155) (m := [(2, .int .i64 hh)]) (w := w) (res1 rfl (rv_tmp rfl)) ?_
    -- return 0: .int .i64 hh
    exact ⟨rfl, rfl⟩
theorem many_cr {w : World} {p : Option Addr} {t : T} (h : IsT w p t) : CR Tryd.prog 116 [.pointer p] w fun v w' => v = .int .i64 (t.size : Nat) ∧ w = w' := by
  have st := St.init w []
  cases t with
  | nil =>
    obtain rfl : p = none := h
    refine CR_enter Tryd.func116 rfl Tryd.ntmps116 rfl ?_
    refine W_seq ?_
    refine W_region ?_
    refine RP_seg 1 [.p (.int .i64 0)] [0] (by kernel_rfl) (fun _ => by kernel_rfl) (by kernel_rfl : pick _ _ = some [(0, .pointer none)]) (trivial) ?_
    refine RP_pick [0] (by kernel_rfl : pick _ _ = some [(0, .pointer none)]) ?_
    refine RP_nil ?_
    refine n_then ?_
    refine W_seq ?_
    refine W_seq ?_
    refine W_region ?_
    refine RP_seg 2 [.p (.pointer none), .p (.bool true)] [0, 4] (by kernel_rfl) (fun _ => by kernel_rfl) (by kernel_rfl : pick _ _ = some [(0, .pointer none), (4, .bool true)]) (trivial) ?_
    refine RP_pick [0, 4] (by kernel_rfl : pick _ _ = some [(0, .pointer none), (4, .bool true)]) ?_
    refine RP_nil ?_
    refine n_then ?_
    refine W_true rfl ?_
    refine W_seq ?_
    refine W_region ?_
    refine RP_seg 1 [.p (.int .i64 0)] [2] (by kernel_rfl) (fun _ => by kernel_rfl) (by kernel_rfl : pick _ _ = some [(2, .int .i64 0)]) (trivial) ?_
    refine RP_pick [2] (by kernel_rfl : pick _ _ = some [(2, .int .i64 0)]) ?_
    refine RP_nil ?_
    refine n_then ?_
    refine W_ret ?_
    refine r_then ?_
    refine ret_of (P := Tryd.prog) (fn := Tryd.f116) (m := [(2, .int .i64 0)]) (w := w) (res1 rfl (rv_tmp rfl)) ?_
    -- return 0: .int .i64 0
    exact ⟨rfl, rfl⟩
  | node e l r =>
    obtain ⟨g, pl, pr, rfl, hb, -, -⟩ := h
    generalize ((T.node e l r).size : Nat) = mm at *
    generalize ((T.node e l r).high : Nat) = hh at *
    generalize (T.node e l r).sum = s at *
    refine CR_enter Tryd.func116 rfl Tryd.ntmps116 rfl ?_
    refine W_seq ?_
    refine W_region ?_
    refine RP_seg 1 [.p (.int .i64 0)] [0] (by kernel_rfl) (fun _ => by kernel_rfl) (by kernel_rfl : pick _ _ = some [(0, .pointer (some ⟨g, 0, none⟩))]) (trivial) ?_
    refine RP_pick [0] (by kernel_rfl : pick _ _ = some [(0, .pointer (some ⟨g, 0, none⟩))]) ?_
    refine RP_nil ?_
    refine n_then ?_
    refine W_seq ?_
    refine W_seq ?_
    refine W_region ?_
    refine RP_seg 2 [.p (.pointer (some ⟨g, 0, none⟩)), .p (.bool false)] [0, 4] (by kernel_rfl) (fun _ => by kernel_rfl) (by kernel_rfl : pick _ _ = some [(0, .pointer (some ⟨g, 0, none⟩)), (4, .bool false)]) (trivial) ?_
    refine RP_pick [0, 4] (by kernel_rfl : pick _ _ = some [(0, .pointer (some ⟨g, 0, none⟩)), (4, .bool false)]) ?_
    refine RP_nil ?_
    refine n_then ?_
    refine W_false rfl ?_
    refine W_skip ?_
    refine n_then ?_
    refine W_seq ?_
    refine W_region ?_
    refine RP_seg 5 [.p (.pointer (some ⟨g, 0, none⟩)), .p (.pointer (some ⟨g, 0, none⟩)), .p (.pointer (some ⟨g, 14, none⟩)), .l 3 (.pointer (some ⟨g, 14, none⟩)) (.int .i64 mm), .p (.int .i64 mm)] [2] (by kernel_rfl) (fun _ => by kernel_rfl) (by kernel_rfl : pick _ _ = some [(2, .int .i64 mm)]) ⟨ld1b (hb.ext st.ext List.not_mem_nil) nagg_3 rfl, trivial⟩ ?_
    refine RP_pick [2] (by kernel_rfl : pick _ _ = some [(2, .int .i64 mm)]) ?_
    refine RP_nil ?_
    refine n_then ?_
    refine W_ret ?_
    refine ret_of (P := Tryd.prog) (fn := Tryd.f116) (m := [(2, .int .i64 mm)]) (w := w) (res1 rfl (rv_tmp rfl)) ?_
    -- return 0: .int .i64 mm
    exact ⟨rfl, rfl⟩
theorem mix_add (a b c d : Int) (w : World) : CR Tryd.prog 76 [.agg #[.int .u64 a, .int .u64 b], .agg #[.int .u64 c, .int .u64 d]] w fun v w' =>
    v = .agg #[.int .u64 (wu (a + c)), .int .u64 (wu (b + d))] ∧ Ext [] w w' := by
  have st := St.init w []
  refine CR_enter Tryd.func76 rfl Tryd.ntmps76 rfl ?_
  refine W_seq ?_
  refine W_region ?_
  refine RP_e rfl (ef_box st rfl rfl) ?_
  rintro _ w1 ⟨g4, rfl, hg4, hg4', st2, hx3⟩
  replace st2 : St [] w w1 [(g4, 30, [.int .u64 a, .int .u64 b])] := st2
  refine RP_e rfl (ef_box st2 rfl rfl) ?_
  rintro _ w5 ⟨g8, rfl, hg8, hg8', st6, hx7⟩
  replace st6 : St [] w w5 [(g8, 30, [.int .u64 c, .int .u64 d]), (g4, 30, [.int .u64 a, .int .u64 b])] := st6
  refine RP_e rfl (ef_alloc st6 zero_30 rfl) ?_
  rintro _ w9 ⟨g12, rfl, hg12, hg12', st10, hx11⟩
  replace st10 : St [] w w9 [(g12, 30, [.int .u64 0, .int .u64 0]), (g8, 30, [.int .u64 c, .int .u64 d]), (g4, 30, [.int .u64 a, .int .u64 b])] := st10
  refine RP_pick [2, 3, 4] (by kernel_rfl : pick _ _ = some [(2, .pointer (some ⟨g4, 0, none⟩)), (3, .pointer (some ⟨g8, 0, none⟩)), (4, .pointer (some ⟨g12, 0, none⟩))]) ?_
  refine RP_nil ?_
  refine n_then ?_
  refine W_seq ?_
  refine W_region ?_
  refine RP_seg 11 [.p (.pointer (some ⟨g4, 0, none⟩)), .l 28 (.pointer (some ⟨g4, 0, none⟩)) (.int .u64 a), .p (.pointer (some ⟨g8, 0, none⟩)), .l 28 (.pointer (some ⟨g8, 0, none⟩)) (.int .u64 c), .p (.int .u64 (IntKind.u64.wrap (a + c))), .p (.pointer (some ⟨g4, 1, none⟩)), .l 28 (.pointer (some ⟨g4, 1, none⟩)) (.int .u64 b), .p (.pointer (some ⟨g8, 1, none⟩)), .l 28 (.pointer (some ⟨g8, 1, none⟩)) (.int .u64 d), .p (.int .u64 (IntKind.u64.wrap (b + d))), .p (.agg #[.int .u64 (IntKind.u64.wrap (a + c)), .int .u64 (IntKind.u64.wrap (b + d))])] [4, 15] (by kernel_rfl) (fun _ => by kernel_rfl) (by kernel_rfl : pick _ _ = some [(4, .pointer (some ⟨g12, 0, none⟩)), (15, .agg #[.int .u64 (IntKind.u64.wrap (a + c)), .int .u64 (IntKind.u64.wrap (b + d))])]) ⟨ld1 st10 nagg_28 2 rfl rfl, ld1 st10 nagg_28 1 rfl rfl, ld1 st10 nagg_28 2 rfl rfl, ld1 st10 nagg_28 1 rfl rfl, trivial⟩ ?_
  refine RP_e rfl (ef_store st10 rfl rfl rfl size_30 0 rfl rfl rfl rfl (.inr hg12)) ?_
  rintro _ w13 ⟨rfl, st14, hx15⟩
  replace st14 : St [] w w13 [(g12, 30, [.int .u64 (IntKind.u64.wrap (a + c)), .int .u64 (IntKind.u64.wrap (b + d))]), (g8, 30, [.int .u64 c, .int .u64 d]), (g4, 30, [.int .u64 a, .int .u64 b])] := st14
  refine RP_pick [4] (by kernel_rfl : pick _ _ = some [(4, .pointer (some ⟨g12, 0, none⟩))]) ?_
  refine RP_nil ?_
  refine n_then ?_
  refine W_ret ?_
  refine ret_of (P := Tryd.prog) (fn := Tryd.f76) (m := [(4, .pointer (some ⟨g12, 0, none⟩))]) (w := w13) (res1 rfl (rv_cell rfl (by simpa [Instr.loadAt, Instr.sureAddr] using (ldN st14 agg_30 0 rfl rfl rfl)))) ?_
  -- return 0: .agg #[.int .u64 (IntKind.u64.wrap (a + c)), .int .u64 (IntKind.u64.wrap (b + d))]
  exact ⟨rfl, st14.ext⟩
theorem tally_join (s t : Tal) (w : World) : CR Tryd.prog 32 [s.v, t.v] w fun v w' => v = (s.join t).v ∧ Ext [] w w' := by
  have st := St.init w []
  refine CR_enter Tryd.func32 rfl Tryd.ntmps32 rfl ?_
  refine W_seq ?_
  refine W_region ?_
  refine RP_e rfl (ef_box st rfl rfl) ?_
  rintro _ w1 ⟨g4, rfl, hg4, hg4', st2, hx3⟩
  replace st2 : St [] w w1 [(g4, 32, [.int .i64 s.k, .int .u64 s.a, .int .u64 s.b])] := st2
  refine RP_e rfl (ef_box st2 rfl rfl) ?_
  rintro _ w5 ⟨g8, rfl, hg8, hg8', st6, hx7⟩
  replace st6 : St [] w w5 [(g8, 32, [.int .i64 t.k, .int .u64 t.a, .int .u64 t.b]), (g4, 32, [.int .i64 s.k, .int .u64 s.a, .int .u64 s.b])] := st6
  refine RP_e rfl (ef_alloc st6 zero_32 rfl) ?_
  rintro _ w9 ⟨g12, rfl, hg12, hg12', st10, hx11⟩
  replace st10 : St [] w w9 [(g12, 32, [.int .i64 0, .int .u64 0, .int .u64 0]), (g8, 32, [.int .i64 t.k, .int .u64 t.a, .int .u64 t.b]), (g4, 32, [.int .i64 s.k, .int .u64 s.a, .int .u64 s.b])] := st10
  refine RP_pick [2, 3, 4] (by kernel_rfl : pick _ _ = some [(2, .pointer (some ⟨g4, 0, none⟩)), (3, .pointer (some ⟨g8, 0, none⟩)), (4, .pointer (some ⟨g12, 0, none⟩))]) ?_
  refine RP_nil ?_
  refine n_then ?_
  refine W_seq ?_
  -- region 1 draws: [(1, 0), (1, 1), (1, 2), (1, 3), (1, 4), (1, 5), (1, 6), (1, 7), (1, 8), (2, 9), (1, 10), (3, 11)]
  refine W_regionS (fun w' => Blk w' g8 32 [.int .i64 t.k, .int .u64 t.a, .int .u64 t.b].toArray ∧ Blk w' g4 32 [.int .i64 s.k, .int .u64 s.a, .int .u64 s.b].toArray) [(1, 0), (1, 1), (1, 2), (1, 3), (1, 4), (1, 5), (1, 6), (1, 7), (1, 8), (2, 9), (1, 10), (3, 11)] 12 (by kernel_rfl) (by kernel_rfl) ?_
  have st13 := st10.drew
  refine RS_seg 9 [.p (.pointer (some ⟨g4, 0, none⟩)), .l 3 (.pointer (some ⟨g4, 0, none⟩)) (.int .i64 s.k), .p (.pointer (some ⟨g8, 0, none⟩)), .l 3 (.pointer (some ⟨g8, 0, none⟩)) (.int .i64 t.k), .p (.int .i64 (IntKind.i64.wrap (s.k + t.k))), .p (.pointer (some ⟨g4, 1, none⟩)), .l 30 (.pointer (some ⟨g4, 1, none⟩)) (.agg #[.int .u64 s.a, .int .u64 s.b]), .p (.pointer (some ⟨g8, 1, none⟩)), .l 30 (.pointer (some ⟨g8, 1, none⟩)) (.agg #[.int .u64 t.a, .int .u64 t.b])] [4, 9, 11, 13] (by kernel_rfl) (by kernel_rfl) (⟨st13.get 1 rfl, st13.get 2 rfl⟩) (by kernel_rfl) (fun _ => by kernel_rfl) (by kernel_rfl : pick _ _ = some [(4, .pointer (some ⟨g12, 0, none⟩)), (9, .int .i64 (IntKind.i64.wrap (s.k + t.k))), (11, .agg #[.int .u64 s.a, .int .u64 s.b]), (13, .agg #[.int .u64 t.a, .int .u64 t.b])]) (fun _ hS => ⟨ld1b (hS.2) nagg_3 rfl, ld1b (hS.1) nagg_3 rfl, ldNb (hS.2) agg_30 rfl rfl, ldNb (hS.1) agg_30 rfl rfl, trivial⟩) ?_
  refine RS_e rfl rfl (ef_call (k := 76) (args := [.agg #[.int .u64 s.a, .int .u64 s.b], .agg #[.int .u64 t.a, .int .u64 t.b]]) (mix_add _ _ _ _ _) body_76 (by kernel_rfl)) ?_
  rintro _ w14 ⟨_, rfl, rfl, hx16⟩
  have st15 := st13.call0 hx16
  refine ⟨⟨st15.get 1 rfl, st15.get 2 rfl⟩, ?_⟩
  refine RS_seg 1 [.p (.agg #[.int .i64 (IntKind.i64.wrap (s.k + t.k)), .int .u64 (wu (s.a + t.a)), .int .u64 (wu (s.b + t.b))])] [4, 15] (by kernel_rfl) (by kernel_rfl) (⟨st15.get 1 rfl, st15.get 2 rfl⟩) (by kernel_rfl) (fun _ => by kernel_rfl) (by kernel_rfl : pick _ _ = some [(4, .pointer (some ⟨g12, 0, none⟩)), (15, .agg #[.int .i64 (IntKind.i64.wrap (s.k + t.k)), .int .u64 (wu (s.a + t.a)), .int .u64 (wu (s.b + t.b))])]) (fun _ hS => trivial) ?_
  refine RS_f rfl rfl (ef_store st15 rfl rfl rfl size_32 0 rfl rfl rfl rfl (.inr hg12)) ?_
  rintro _ w17 ⟨rfl, st18, hx19⟩
  replace st18 : St [] w w17 [(g12, 32, [.int .i64 (IntKind.i64.wrap (s.k + t.k)), .int .u64 (wu (s.a + t.a)), .int .u64 (wu (s.b + t.b))]), (g8, 32, [.int .i64 t.k, .int .u64 t.a, .int .u64 t.b]), (g4, 32, [.int .i64 s.k, .int .u64 s.a, .int .u64 s.b])] := st18
  refine RS_pick [4] (by kernel_rfl : pick _ _ = some [(4, .pointer (some ⟨g12, 0, none⟩))]) ?_
  refine RS_nil ?_
  refine n_then ?_
  refine W_ret ?_
  refine ret_of (P := Tryd.prog) (fn := Tryd.f32) (m := [(4, .pointer (some ⟨g12, 0, none⟩))]) (w := w17) (res1 rfl (rv_cell rfl (by simpa [Instr.loadAt, Instr.sureAddr] using (ldN st18 agg_32 0 rfl rfl rfl)))) ?_
  -- return 0: .agg #[.int .i64 (IntKind.i64.wrap (s.k + t.k)), .int .u64 (wu (s.a + t.a)), .int .u64 (wu (s.b + t.b))]
  exact ⟨by rw [w64]; rfl, st18.ext⟩
theorem meter_join (s t : Tal) (g : Nat) (j : Int) (w : World) (h : Blk w g 205 #[.int .i64 j]) : CR Tryd.prog 101 [.pointer (some ⟨g, 0, none⟩), s.v, t.v] w fun v w' =>
    v = (s.join t).v ∧ Blk w' g 205 #[.int .i64 (IntKind.i64.wrap (j + 1))] ∧ Ext [g] w w' := by
  have st := (St.init w [g]).add h (by simp)
  refine CR_enter Tryd.func101 rfl Tryd.ntmps101 rfl ?_
  refine W_seq ?_
  refine W_region ?_
  refine RP_e rfl (ef_box st rfl rfl) ?_
  rintro _ w1 ⟨g4, rfl, hg4, hg4', st2, hx3⟩
  replace st2 : St [g] w w1 [(g4, 32, [.int .i64 s.k, .int .u64 s.a, .int .u64 s.b]), (g, 205, [.int .i64 j])] := st2
  refine RP_e rfl (ef_box st2 rfl rfl) ?_
  rintro _ w5 ⟨g8, rfl, hg8, hg8', st6, hx7⟩
  replace st6 : St [g] w w5 [(g8, 32, [.int .i64 t.k, .int .u64 t.a, .int .u64 t.b]), (g4, 32, [.int .i64 s.k, .int .u64 s.a, .int .u64 s.b]), (g, 205, [.int .i64 j])] := st6
  refine RP_e rfl (ef_alloc st6 zero_32 rfl) ?_
  rintro _ w9 ⟨g12, rfl, hg12, hg12', st10, hx11⟩
  replace st10 : St [g] w w9 [(g12, 32, [.int .i64 0, .int .u64 0, .int .u64 0]), (g8, 32, [.int .i64 t.k, .int .u64 t.a, .int .u64 t.b]), (g4, 32, [.int .i64 s.k, .int .u64 s.a, .int .u64 s.b]), (g, 205, [.int .i64 j])] := st10
  refine RP_pick [0, 4, 5, 6] (by kernel_rfl : pick _ _ = some [(0, .pointer (some ⟨g, 0, none⟩)), (4, .pointer (some ⟨g4, 0, none⟩)), (5, .pointer (some ⟨g8, 0, none⟩)), (6, .pointer (some ⟨g12, 0, none⟩))]) ?_
  refine RP_nil ?_
  refine n_then ?_
  refine W_seq ?_
  refine W_region ?_
  refine RP_seg 7 [.p (.pointer (some ⟨g, 0, none⟩)), .p (.pointer (some ⟨g, 0, none⟩)), .p (.pointer (some ⟨g, 0, none⟩)), .l 3 (.pointer (some ⟨g, 0, none⟩)) (.int .i64 j), .p (.int .i64 (IntKind.i64.wrap (j + 1))), .p (.pointer (some ⟨g, 0, none⟩)), .p (.pointer (some ⟨g, 0, none⟩))] [4, 5, 6, 11, 13] (by kernel_rfl) (fun _ => by kernel_rfl) (by kernel_rfl : pick _ _ = some [(4, .pointer (some ⟨g4, 0, none⟩)), (5, .pointer (some ⟨g8, 0, none⟩)), (6, .pointer (some ⟨g12, 0, none⟩)), (11, .int .i64 (IntKind.i64.wrap (j + 1))), (13, .pointer (some ⟨g, 0, none⟩))]) ⟨ld1 st10 nagg_3 3 rfl rfl, trivial⟩ ?_
  refine RP_e rfl (ef_store st10 rfl rfl rfl size_3 3 rfl rfl rfl rfl (.inl (by simp))) ?_
  rintro _ w13 ⟨rfl, st14, hx15⟩
  replace st14 : St [g] w w13 [(g12, 32, [.int .i64 0, .int .u64 0, .int .u64 0]), (g8, 32, [.int .i64 t.k, .int .u64 t.a, .int .u64 t.b]), (g4, 32, [.int .i64 s.k, .int .u64 s.a, .int .u64 s.b]), (g, 205, [.int .i64 (IntKind.i64.wrap (j + 1))])] := st14
  refine RP_pick [4, 5, 6] (by kernel_rfl : pick _ _ = some [(4, .pointer (some ⟨g4, 0, none⟩)), (5, .pointer (some ⟨g8, 0, none⟩)), (6, .pointer (some ⟨g12, 0, none⟩))]) ?_
  refine RP_nil ?_
  refine n_then ?_
  refine W_seq ?_
  refine W_region ?_
  refine RP_seg 2 [.l 32 (.pointer (some ⟨g4, 0, none⟩)) (.agg #[.int .i64 s.k, .int .u64 s.a, .int .u64 s.b]), .l 32 (.pointer (some ⟨g8, 0, none⟩)) (.agg #[.int .i64 t.k, .int .u64 t.a, .int .u64 t.b])] [6, 14, 15] (by kernel_rfl) (fun _ => by kernel_rfl) (by kernel_rfl : pick _ _ = some [(6, .pointer (some ⟨g12, 0, none⟩)), (14, .agg #[.int .i64 s.k, .int .u64 s.a, .int .u64 s.b]), (15, .agg #[.int .i64 t.k, .int .u64 t.a, .int .u64 t.b])]) ⟨ldN st14 agg_32 2 rfl rfl rfl, ldN st14 agg_32 1 rfl rfl rfl, trivial⟩ ?_
  refine RP_e rfl (ef_call (k := 32) (args := [.agg #[.int .i64 s.k, .int .u64 s.a, .int .u64 s.b], .agg #[.int .i64 t.k, .int .u64 t.a, .int .u64 t.b]]) (tally_join s t _) body_32 (by kernel_rfl)) ?_
  rintro _ w16 ⟨_, rfl, rfl, hx18⟩
  have st17 := st14.call0 hx18
  refine RP_e rfl (ef_store st17 rfl rfl rfl size_32 0 rfl rfl rfl rfl (.inr hg12)) ?_
  rintro _ w19 ⟨rfl, st20, hx21⟩
  replace st20 : St [g] w w19 [(g12, 32, [.int .i64 ((s.join t).k), .int .u64 ((s.join t).a), .int .u64 ((s.join t).b)]), (g8, 32, [.int .i64 t.k, .int .u64 t.a, .int .u64 t.b]), (g4, 32, [.int .i64 s.k, .int .u64 s.a, .int .u64 s.b]), (g, 205, [.int .i64 (IntKind.i64.wrap (j + 1))])] := st20
  refine RP_pick [6] (by kernel_rfl : pick _ _ = some [(6, .pointer (some ⟨g12, 0, none⟩))]) ?_
  refine RP_nil ?_
  refine n_then ?_
  refine W_ret ?_
  refine ret_of (P := Tryd.prog) (fn := Tryd.f101) (m := [(6, .pointer (some ⟨g12, 0, none⟩))]) (w := w19) (res1 rfl (rv_cell rfl (by simpa [Instr.loadAt, Instr.sureAddr] using (ldN st20 agg_32 0 rfl rfl rfl)))) ?_
  -- return 0: .agg #[.int .i64 ((s.join t).k), .int .u64 ((s.join t).a), .int .u64 ((s.join t).b)]
  exact ⟨rfl, st20.get 3 rfl, st20.ext⟩
end Go.Proofs.YtcopemgkjbaaeaaDoor
