/-
  made; the law MatchSame, walked.
-/
import Derived.Test.YtcopemgkjbaaeaaDoorCo
namespace Go.Proofs.YtcopemgkjbaaeaaDoor
set_option linter.all false
open Go.RowKit

theorem Doc.ext0 {w w' : World} {gd : Nat} {node clock : Int} {b : Option Addr} {c : Nat} {L : List Ent} (h : Doc w gd node clock b c L) (hx : Ext [] w w') : Doc w' gd node clock b c L := h.ext hx (by simp) (by simp)
theorem Doc.ext1 {w w' : World} {gd : Nat} {node clock : Int} {b : Option Addr} {c : Nat} {L : List Ent} {g : Nat} {t : TypeId} {cs : Array Value} (h : Doc w gd node clock b c L) (hx : Ext [g] w w') (hb : Blk w g t cs) (h1 : t ≠ 167) (h2 : t ≠ 61) : Doc w' gd node clock b c L :=
  h.ext hx (by simpa using (hb.ne_ h.blk h1).symm) (fun q hq hm => by simp only [List.mem_singleton] at hm; subst hm; exact ownsRow.not_blk h.own hb (fun e => h2 e.symm) hq)
theorem Sto.ext0 {w w' : World} {gs bm bt : Nat} {p : Option Addr} {node clock j : Int} {t : T} (h : Sto w gs bm bt p node clock j t) (hx : Ext [] w w') : Sto w' gs bm bt p node clock j t :=
  ⟨h.blk.ext hx (by simp), h.tr.ext hx (by simp), h.ist.to hx (NoNode.nil _)⟩
theorem Sto.ext1 {w w' : World} {gs bm bt : Nat} {p : Option Addr} {node clock j : Int} {tt : T} {g : Nat} {t : TypeId} {cs : Array Value} (h : Sto w gs bm bt p node clock j tt) (hx : Ext [g] w w') (hb : Blk w g t cs) (h1 : t ≠ 129) (h2 : t ≠ 179) (h3 : t ≠ 205) (h4 : t ≠ 181) : Sto w' gs bm bt p node clock j tt :=
  ⟨h.blk.ext hx (by simpa using (hb.ne_ h.blk h1).symm), h.tr.ext1 hx hb h2 h3, h.ist.to hx (NoNode.one hb h4)⟩
theorem Sto.extM {w w' : World} {gs bm bt bm' : Nat} {p : Option Addr} {node clock j : Int} {tt : T} {cs : Array Value} (h : Sto w gs bm bt p node clock j tt) (hx : Ext [bm'] w w') (hb : Blk w bm' 205 cs) (hne : bm ≠ bm') : Sto w' gs bm bt p node clock j tt :=
  ⟨h.blk.ext hx (by simpa using (hb.ne_ h.blk (by decide)).symm), h.tr.ext hx ⟨by simpa using (hb.ne_ h.tr.t (by decide)).symm, by simpa using hne⟩, h.ist.to hx (NoNode.meter hb)⟩
theorem St.apartM {X : List Nat} {w0 w : World} {M : List (Nat × TypeId × List Value)} (st : St X w0 w M) {bm : Nat} {cs : Array Value} (h : Blk w bm 205 cs) (ht : M.all (fun x => x.2.1 != 205) = true) : ∀ g ∈ M.map (·.1), g ∉ [bm] := by
  intro g hg hm
  obtain ⟨x, hx, rfl⟩ := List.mem_map.1 hg
  have h1 := List.all_eq_true.1 ht x hx
  simp only [bne_iff_ne, ne_eq] at h1
  simp only [List.mem_singleton] at hm
  exact (st.blk x hx).ne_ h h1 hm

theorem made_cr {w : World} {b : Option Addr} {c : Nat} {L : List Ent} (node : Int) (hl : Lanes w) (hin : InS w b (entCells L)) (h0 : loadErr node 1099511627776 L = 0) :
    CR Tryd.prog 12 [.int .i64 node, .slice b L.length c] w fun v w' => ∃ gs bm bt p j gd b' c', v = .tuple #[.agg #[.pointer (some ⟨gs, 0, none⟩), .pointer (some ⟨gd, 0, none⟩)], .bool true] ∧
      Sto w' gs bm bt p node 1099511627776 j (T.load L) ∧ Doc w' gd node 1099511627776 b' c' L ∧ Ext [] w w' ∧ w.heap.size ≤ gs ∧ w.heap.size ≤ bm ∧ w.heap.size ≤ bt ∧ w.heap.size ≤ gd := by
  have st := St.init w []
  have hne : (loadErr node 1099511627776 L != 0) = false := by rw [h0]; rfl
  have heq : (loadErr node 1099511627776 L == 0) = true := by rw [h0]; rfl
  refine CR_enter Tryd.func12 rfl Tryd.ntmps12 rfl ?_
  refine W_seq ?_
  refine W_region ?_
  refine RP_e rfl (ef_alloc st zero_39 rfl) ?_
  rintro _ w1 ⟨g4, rfl, hg4, hg4', st2, hx3⟩
  replace st2 : St [] w w1 [(g4, 39, [.pointer none, .pointer none])] := st2
  refine RP_seg 1 [.p (.bool false)] [0, 1, 4] (by kernel_rfl) (fun _ => by kernel_rfl) (by kernel_rfl : pick _ _ = some [(0, .int .i64 node), (1, .slice b L.length c), (4, .pointer (some ⟨g4, 0, none⟩))]) (trivial) ?_
  refine RP_pick [0, 1, 4] (by kernel_rfl : pick _ _ = some [(0, .int .i64 node), (1, .slice b L.length c), (4, .pointer (some ⟨g4, 0, none⟩))]) ?_
  refine RP_nil ?_
  refine n_then ?_
  refine W_seq ?_
  refine W_region ?_
  refine RP_seg 2 [.p (.int .i64 node), .p (.slice b L.length c)] [0, 1, 4, 11, 12] (by kernel_rfl) (fun _ => by kernel_rfl) (by kernel_rfl : pick _ _ = some [(0, .int .i64 node), (1, .slice b L.length c), (4, .pointer (some ⟨g4, 0, none⟩)), (11, .int .i64 node), (12, .slice b L.length c)]) (trivial) ?_
  refine RP_e rfl (ef_call (k := 41) (args := [.int .i64 node, .int .i64 1099511627776, .slice b L.length c]) (refLoad_cr node 1099511627776 (hin.ext0 st2.ext)) body_41 (by kernel_rfl)) ?_
  rintro _ w5 ⟨_, rfl, u, rfl, hx7, -, hd0⟩
  have st6 := st2.call0 hx7
  obtain ⟨gd, b2, c2, rfl, hD, hgd, -⟩ := hd0 h0
  replace hgd : w.heap.size ≤ gd := Nat.le_trans st2.ext.size hgd
  refine RP_seg 5 [.p (.tuple #[.pointer (some ⟨gd, 0, none⟩), .int .i64 (loadErr node 1099511627776 L)]), .p (.pointer (some ⟨gd, 0, none⟩)), .p (.int .i64 (loadErr node 1099511627776 L)), .p (.pointer (some ⟨gd, 0, none⟩)), .p (.int .i64 (loadErr node 1099511627776 L))] [0, 1, 4, 6, 7] (by kernel_rfl) (fun _ => by kernel_rfl) (by kernel_rfl : pick _ _ = some [(0, .int .i64 node), (1, .slice b L.length c), (4, .pointer (some ⟨g4, 0, none⟩)), (6, .pointer (some ⟨gd, 0, none⟩)), (7, .int .i64 (loadErr node 1099511627776 L))]) (trivial) ?_
  refine RP_pick [0, 1, 4, 6, 7] (by kernel_rfl : pick _ _ = some [(0, .int .i64 node), (1, .slice b L.length c), (4, .pointer (some ⟨g4, 0, none⟩)), (6, .pointer (some ⟨gd, 0, none⟩)), (7, .int .i64 (loadErr node 1099511627776 L))]) ?_
  refine RP_nil ?_
  refine n_then ?_
  refine W_seq ?_
  refine W_seq ?_
  refine W_region ?_
  refine RP_seg 2 [.p (.int .i64 (loadErr node 1099511627776 L)), .p (.bool ((loadErr node 1099511627776 L) != 0))] [0, 1, 4, 6, 17] (by kernel_rfl) (fun _ => by kernel_rfl) (by kernel_rfl : pick _ _ = some [(0, .int .i64 node), (1, .slice b L.length c), (4, .pointer (some ⟨g4, 0, none⟩)), (6, .pointer (some ⟨gd, 0, none⟩)), (17, .bool ((loadErr node 1099511627776 L) != 0))]) (trivial) ?_
  refine RP_pick [0, 1, 4, 6, 17] (by kernel_rfl : pick _ _ = some [(0, .int .i64 node), (1, .slice b L.length c), (4, .pointer (some ⟨g4, 0, none⟩)), (6, .pointer (some ⟨gd, 0, none⟩)), (17, .bool ((loadErr node 1099511627776 L) != 0))]) ?_
  refine RP_nil ?_
  refine n_then ?_
  refine W_false' rfl hne ?_
  refine W_skip ?_
  refine n_then ?_
  refine W_seq ?_
  refine W_region ?_
  refine RP_seg 2 [.p (.int .i64 node), .p (.slice b L.length c)] [4, 6, 20, 21] (by kernel_rfl) (fun _ => by kernel_rfl) (by kernel_rfl : pick _ _ = some [(4, .pointer (some ⟨g4, 0, none⟩)), (6, .pointer (some ⟨gd, 0, none⟩)), (20, .int .i64 node), (21, .slice b L.length c)]) (trivial) ?_
  refine RP_e rfl (ef_call (k := 42) (args := [.int .i64 node, .int .i64 1099511627776, .slice b L.length c]) (load_cr node 1099511627776 (hl.ext st6.ext List.not_mem_nil) (hin.ext0 st6.ext)) body_42 (by kernel_rfl)) ?_
  rintro _ w8 ⟨_, rfl, u2, rfl, hx10, -, hs0⟩
  have st9 := st6.call0 hx10
  replace hD := hD.ext0 hx10
  obtain ⟨gs, bm, bt, p, j, rfl, hS, hgs, hbm, hbt⟩ := hs0 h0
  replace hgs : w.heap.size ≤ gs := Nat.le_trans st6.ext.size hgs
  replace hbm : w.heap.size ≤ bm := Nat.le_trans st6.ext.size hbm
  replace hbt : w.heap.size ≤ bt := Nat.le_trans st6.ext.size hbt
  refine RP_seg 5 [.p (.tuple #[.pointer (some ⟨gs, 0, none⟩), .int .i64 (loadErr node 1099511627776 L)]), .p (.pointer (some ⟨gs, 0, none⟩)), .p (.int .i64 (loadErr node 1099511627776 L)), .p (.pointer (some ⟨gs, 0, none⟩)), .p (.int .i64 (loadErr node 1099511627776 L))] [4, 6, 8, 9] (by kernel_rfl) (fun _ => by kernel_rfl) (by kernel_rfl : pick _ _ = some [(4, .pointer (some ⟨g4, 0, none⟩)), (6, .pointer (some ⟨gd, 0, none⟩)), (8, .pointer (some ⟨gs, 0, none⟩)), (9, .int .i64 (loadErr node 1099511627776 L))]) (trivial) ?_
  refine RP_pick [4, 6, 8, 9] (by kernel_rfl : pick _ _ = some [(4, .pointer (some ⟨g4, 0, none⟩)), (6, .pointer (some ⟨gd, 0, none⟩)), (8, .pointer (some ⟨gs, 0, none⟩)), (9, .int .i64 (loadErr node 1099511627776 L))]) ?_
  refine RP_nil ?_
  refine n_then ?_
  refine W_seq ?_
  refine W_region ?_
  refine RP_seg 6 [.p (.pointer (some ⟨gs, 0, none⟩)), .p (.pointer (some ⟨gd, 0, none⟩)), .p (.agg #[.pointer (some ⟨gs, 0, none⟩), .pointer (some ⟨gd, 0, none⟩)]), .p (.int .i64 (loadErr node 1099511627776 L)), .p (.bool ((loadErr node 1099511627776 L) == 0)), .p (.bool ((loadErr node 1099511627776 L) == 0))] [4, 8, 27, 30] (by kernel_rfl) (fun _ => by kernel_rfl) (by kernel_rfl : pick _ _ = some [(4, .pointer (some ⟨g4, 0, none⟩)), (8, .pointer (some ⟨gs, 0, none⟩)), (27, .agg #[.pointer (some ⟨gs, 0, none⟩), .pointer (some ⟨gd, 0, none⟩)]), (30, .bool ((loadErr node 1099511627776 L) == 0))]) (trivial) ?_
  refine RP_at (m' := [(4, .pointer (some ⟨g4, 0, none⟩)), (8, .pointer (some ⟨gs, 0, none⟩)), (27, .agg #[.pointer (some ⟨gs, 0, none⟩), .pointer (some ⟨gd, 0, none⟩)]), (30, .bool true)]) (by rw [heq]) ?_
  refine RP_seg 3 [.p (.pointer (some ⟨gs, 0, none⟩)), .p (.bool true), .p (.bool true)] [4, 27, 33] (by kernel_rfl) (fun _ => by kernel_rfl) (by kernel_rfl : pick _ _ = some [(4, .pointer (some ⟨g4, 0, none⟩)), (27, .agg #[.pointer (some ⟨gs, 0, none⟩), .pointer (some ⟨gd, 0, none⟩)]), (33, .bool true)]) (trivial) ?_
  refine RP_e rfl (ef_store st9 rfl rfl rfl size_39 0 rfl rfl rfl rfl (.inr hg4)) ?_
  rintro _ w11 ⟨rfl, st12, hx13⟩
  replace st12 : St [] w w11 [(g4, 39, [.pointer (some ⟨gs, 0, none⟩), .pointer (some ⟨gd, 0, none⟩)])] := st12
  replace hD := hD.ext1 hx13 (st9.get 0 rfl) (by decide) (by decide)
  replace hS := hS.ext1 hx13 (st9.get 0 rfl) (by decide) (by decide) (by decide) (by decide)
  refine RP_seg 1 [.p (.bool true)] [4, 5] (by kernel_rfl) (fun _ => by kernel_rfl) (by kernel_rfl : pick _ _ = some [(4, .pointer (some ⟨g4, 0, none⟩)), (5, .bool true)]) (trivial) ?_
  refine RP_pick [4, 5] (by kernel_rfl : pick _ _ = some [(4, .pointer (some ⟨g4, 0, none⟩)), (5, .bool true)]) ?_
  refine RP_nil ?_
  refine n_then ?_
  refine W_ret ?_
  refine ret_of (P := Tryd.prog) (fn := Tryd.f12) (m := [(4, .pointer (some ⟨g4, 0, none⟩)), (5, .bool true)]) (w := w11) (res2 rfl (rv_cell rfl (by simpa [Instr.loadAt, Instr.sureAddr] using (ldN st12 agg_39 0 rfl rfl rfl))) (rv_tmp rfl)) ?_
  -- return 0: .agg #[.pointer (some ⟨gs, 0, none⟩), .pointer (some ⟨gd, 0, none⟩)], .bool true
  exact ⟨gs, bm, bt, p, j, gd, b2, c2, rfl, hS, hD, st12.ext, hgs, hbm, hbt, hgd⟩
theorem matchPrint_ok {w : World} {gs bm bt : Nat} {p : Option Addr} {node clock j : Int} {t : T} (r : Rng) (hS : Sto w gs bm bt p node clock j t) (hs : t.size ≤ 10000) (hp : printErr r = 0) :
    CR Tryd.prog 14 [.pointer (some ⟨gs, 0, none⟩), r.v] w fun v w' => v = .tuple #[(⟨1, r, t.foldR r, [], none, 0⟩ : Prt).v, .int .i64 0] ∧ (∃ j', Sto w' gs bm bt p node clock j' t) ∧ Ext [bm] w w' :=
  (matchPrint_cr r hS hs).mono fun v w' h => by
    unfold printP at h
    rw [hp] at h
    exact h
theorem matchSame_cr {w : World} {b : Option Addr} {c : Nat} (L : List Ent) (r : Rng) (branch leaf : Int) (hl : Lanes w) (hin : InS w b (entCells L)) (hL : L.length ≤ 9223372036854775807) :
    CR Tryd.prog 3 [.slice b L.length c, r.v, .int .i64 branch, .int .i64 leaf] w fun v w' => v = .bool true ∧ Ext [] w w' := by
  have st := St.init w []
  refine CR_enter Tryd.func3 rfl Tryd.ntmps3 rfl ?_
  refine W_seq ?_
  refine W_region ?_
  refine RP_e rfl (ef_box st rfl rfl) ?_
  rintro _ w1 ⟨g4, rfl, hg4, hg4', st2, hx3⟩
  replace st2 : St [] w w1 [(g4, 24, [.string r.lo, .string r.hi, .bool r.op])] := st2
  refine RP_seg 1 [.p (.bool false)] [0, 2, 3, 5] (by kernel_rfl) (fun _ => by kernel_rfl) (by kernel_rfl : pick _ _ = some [(0, .slice b L.length c), (2, .int .i64 branch), (3, .int .i64 leaf), (5, .pointer (some ⟨g4, 0, none⟩))]) (trivial) ?_
  refine RP_pick [0, 2, 3, 5] (by kernel_rfl : pick _ _ = some [(0, .slice b L.length c), (2, .int .i64 branch), (3, .int .i64 leaf), (5, .pointer (some ⟨g4, 0, none⟩))]) ?_
  refine RP_nil ?_
  refine n_then ?_
  refine W_seq ?_
  refine W_seq ?_
  refine W_region ?_
  refine RP_seg 2 [.l 24 (.pointer (some ⟨g4, 0, none⟩)) (.agg #[.string r.lo, .string r.hi, .bool r.op]), .p (.agg #[.int .i64 0, .string r.lo, .string r.hi, .bool r.op, .int .i64 0, .int .u64 0, .int .u64 0, .slice none 0 0])] [0, 2, 3, 5, 20] (by kernel_rfl) (fun _ => by kernel_rfl) (by kernel_rfl : pick _ _ = some [(0, .slice b L.length c), (2, .int .i64 branch), (3, .int .i64 leaf), (5, .pointer (some ⟨g4, 0, none⟩)), (20, .agg #[.int .i64 0, .string r.lo, .string r.hi, .bool r.op, .int .i64 0, .int .u64 0, .int .u64 0, .slice none 0 0])]) ⟨ldN st2 agg_24 0 rfl rfl rfl, trivial⟩ ?_
  refine RP_e rfl (ef_call (k := 10) (args := [.agg #[.int .i64 0, .string r.lo, .string r.hi, .bool r.op, .int .i64 0, .int .u64 0, .int .u64 0, .slice none 0 0]]) (one_cr ⟨0, r, Tal.zero, [], none, 0⟩ _) body_10 (by kernel_rfl)) ?_
  rintro _ w5 ⟨_, rfl, b1, c1, rfl, hone, hx7⟩
  have st6 := st2.call0 hx7
  refine RP_seg 1 [.p (.slice b L.length c)] [0, 2, 3, 5, 21, 22] (by kernel_rfl) (fun _ => by kernel_rfl) (by kernel_rfl : pick _ _ = some [(0, .slice b L.length c), (2, .int .i64 branch), (3, .int .i64 leaf), (5, .pointer (some ⟨g4, 0, none⟩)), (21, .slice b1 1 c1), (22, .slice b L.length c)]) (trivial) ?_
  refine RP_e rfl (ef_new (t := 22) (cs := [.slice b L.length c]) (fun g => .slice (some ⟨g, 0, none⟩) 1 1) st6 rfl rfl (fun _ => by kernel_rfl)) ?_
  rintro _ w8 ⟨g11, rfl, hg11, hg11', st9, hx10⟩
  replace hone := hone.ext0 hx10
  refine RP_e rfl (ef_call (k := 9) (args := [.slice b1 1 c1, .slice (some ⟨g11, 0, none⟩) 1 1]) (beyond_cr [⟨0, r, Tal.zero, [], none, 0⟩] [⟨L, b, c⟩] hone (fun p hp => by simp only [List.mem_singleton] at hp; subst hp; exact .inl rfl) (show 1 ≤ 9223372036854775807 by decide) (fun p hp => by simp only [List.mem_singleton] at hp; subst hp; exact (show 0 ≤ 9223372036854775807 by decide)) (InS.of_blk (st9.get 0 rfl)) (fun s hs => by simp only [List.mem_singleton] at hs; subst hs; exact hin.ext0 st9.ext) (show 1 ≤ 9223372036854775807 by decide) (fun s hs => by simp only [List.mem_singleton] at hs; subst hs; exact hL)) body_9 (by kernel_rfl)) ?_
  rintro _ w12 ⟨_, rfl, nb, rfl, hx14⟩
  have st13 := st9.call0 hx14
  refine RP_seg 1 [.p (.bool nb)] [0, 2, 3, 5, 25] (by kernel_rfl) (fun _ => by kernel_rfl) (by kernel_rfl : pick _ _ = some [(0, .slice b L.length c), (2, .int .i64 branch), (3, .int .i64 leaf), (5, .pointer (some ⟨g4, 0, none⟩)), (25, .bool nb)]) (trivial) ?_
  rcases Bool.eq_false_or_eq_true (nb) with c25_15 | c25_15
  ·
    refine RP_at (m' := [(0, .slice b L.length c), (2, .int .i64 branch), (3, .int .i64 leaf), (5, .pointer (some ⟨g4, 0, none⟩)), (25, .bool true)]) (by rw [c25_15]) ?_
    refine RP_seg 1 [.no] [0, 2, 3, 5, 25, 26] (by kernel_rfl) (fun _ => by kernel_rfl) (by kernel_rfl : pick _ _ = some [(0, .slice b L.length c), (2, .int .i64 branch), (3, .int .i64 leaf), (5, .pointer (some ⟨g4, 0, none⟩)), (25, .bool true), (26, undef)]) (trivial) ?_
    refine RP_no rfl rfl (by decide) ?_
    refine RP_seg 2 [.no, .p (.bool true)] [0, 2, 3, 5, 29] (by kernel_rfl) (fun _ => by kernel_rfl) (by kernel_rfl : pick _ _ = some [(0, .slice b L.length c), (2, .int .i64 branch), (3, .int .i64 leaf), (5, .pointer (some ⟨g4, 0, none⟩)), (29, .bool true)]) (trivial) ?_
    refine RP_pick [0, 2, 3, 5, 29] (by kernel_rfl : pick _ _ = some [(0, .slice b L.length c), (2, .int .i64 branch), (3, .int .i64 leaf), (5, .pointer (some ⟨g4, 0, none⟩)), (29, .bool true)]) ?_
    refine RP_nil ?_
    refine n_then ?_
    refine W_true rfl ?_
    refine W_seq ?_
    refine W_region ?_
    refine RP_seg 1 [.p (.bool true)] [8] (by kernel_rfl) (fun _ => by kernel_rfl) (by kernel_rfl : pick _ _ = some [(8, .bool true)]) (trivial) ?_
    refine RP_pick [8] (by kernel_rfl : pick _ _ = some [(8, .bool true)]) ?_
    refine RP_nil ?_
    refine n_then ?_
    refine W_ret ?_
    refine r_then ?_
    refine ret_of (P := Tryd.prog) (fn := Tryd.f3) (m := [(8, .bool true)]) (w := w12) (res1 rfl (rv_tmp rfl)) ?_
    -- return 0: .bool true
    exact ⟨rfl, st13.ext⟩
  ·
    refine RP_at (m' := [(0, .slice b L.length c), (2, .int .i64 branch), (3, .int .i64 leaf), (5, .pointer (some ⟨g4, 0, none⟩)), (25, .bool false)]) (by rw [c25_15]) ?_
    refine RP_seg 1 [.p (.slice b L.length c)] [0, 2, 3, 5, 25, 26] (by kernel_rfl) (fun _ => by kernel_rfl) (by kernel_rfl : pick _ _ = some [(0, .slice b L.length c), (2, .int .i64 branch), (3, .int .i64 leaf), (5, .pointer (some ⟨g4, 0, none⟩)), (25, .bool false), (26, .slice b L.length c)]) (trivial) ?_
    refine RP_ge rfl rfl (ef_call (k := 11) (args := [.int .i64 6, .slice b L.length c]) (right_cr 6 (hin.ext0 st13.ext)) body_11 (by kernel_rfl)) ?_
    rintro _ w16 ⟨_, rfl, rfl, hx18⟩
    have st17 := st13.call0 hx18
    refine RP_seg 2 [.p (.bool (!(loadErr 6 1099511627776 L == 0))), .p (.bool (!(loadErr 6 1099511627776 L == 0)))] [0, 2, 3, 5, 29] (by kernel_rfl) (fun _ => by kernel_rfl) (by kernel_rfl : pick _ _ = some [(0, .slice b L.length c), (2, .int .i64 branch), (3, .int .i64 leaf), (5, .pointer (some ⟨g4, 0, none⟩)), (29, .bool (!(loadErr 6 1099511627776 L == 0)))]) (trivial) ?_
    refine RP_pick [0, 2, 3, 5, 29] (by kernel_rfl : pick _ _ = some [(0, .slice b L.length c), (2, .int .i64 branch), (3, .int .i64 leaf), (5, .pointer (some ⟨g4, 0, none⟩)), (29, .bool (!(loadErr 6 1099511627776 L == 0)))]) ?_
    refine RP_nil ?_
    refine n_then ?_
    refine W_cond rfl (fun c29_19 => ?_) (fun c29_19 => ?_)
    ·
      refine W_seq ?_
      refine W_region ?_
      refine RP_seg 1 [.p (.bool true)] [8] (by kernel_rfl) (fun _ => by kernel_rfl) (by kernel_rfl : pick _ _ = some [(8, .bool true)]) (trivial) ?_
      refine RP_pick [8] (by kernel_rfl : pick _ _ = some [(8, .bool true)]) ?_
      refine RP_nil ?_
      refine n_then ?_
      refine W_ret ?_
      refine r_then ?_
      refine ret_of (P := Tryd.prog) (fn := Tryd.f3) (m := [(8, .bool true)]) (w := w16) (res1 rfl (rv_tmp rfl)) ?_
      -- return 1: .bool true
      exact ⟨rfl, st17.ext⟩
    ·
      refine W_skip ?_
      refine n_then ?_
      refine W_seq ?_
      have h6 : loadErr 6 1099511627776 L = 0 := by have := c29_19; simpa using this
      have h7 : loadErr 7 1099511627776 L = 0 := h6
      have hok := loadErr_ok h6
      have hTs := T.load_size L
      have hkk : ∀ e ∈ L, e.key.size < 10000000 := fun e he => Nat.lt_of_le_of_lt (check_key (hok.2 e he)) (by decide)
      refine W_region ?_
      refine RP_seg 1 [.p (.slice b L.length c)] [0, 2, 3, 5, 31] (by kernel_rfl) (fun _ => by kernel_rfl) (by kernel_rfl : pick _ _ = some [(0, .slice b L.length c), (2, .int .i64 branch), (3, .int .i64 leaf), (5, .pointer (some ⟨g4, 0, none⟩)), (31, .slice b L.length c)]) (trivial) ?_
      refine RP_e rfl (ef_call (k := 12) (args := [.int .i64 6, .slice b L.length c]) (made_cr 6 (hl.ext st17.ext List.not_mem_nil) (hin.ext0 st17.ext) h6) body_12 (by kernel_rfl)) ?_
      rintro _ w20 ⟨_, rfl, ga, bma, bta, pa, ja, gda, bda, cda, rfl, hSa, hDa, hx22, hga, hbma, hbta, hgda⟩
      have st21 := st17.call0 hx22
      replace hbma : w.heap.size ≤ bma := Nat.le_trans st17.ext.size hbma
      refine RP_seg 3 [.p (.tuple #[.agg #[.pointer (some ⟨ga, 0, none⟩), .pointer (some ⟨gda, 0, none⟩)], .bool true]), .p (.agg #[.pointer (some ⟨ga, 0, none⟩), .pointer (some ⟨gda, 0, none⟩)]), .p (.bool true)] [0, 2, 3, 5, 33, 34] (by kernel_rfl) (fun _ => by kernel_rfl) (by kernel_rfl : pick _ _ = some [(0, .slice b L.length c), (2, .int .i64 branch), (3, .int .i64 leaf), (5, .pointer (some ⟨g4, 0, none⟩)), (33, .agg #[.pointer (some ⟨ga, 0, none⟩), .pointer (some ⟨gda, 0, none⟩)]), (34, .bool true)]) (trivial) ?_
      refine RP_e rfl (ef_alloc st21 zero_39 rfl) ?_
      rintro _ w23 ⟨g26, rfl, hg26, hg26', st24, hx25⟩
      replace st24 : St [] w w23 [(g26, 39, [.pointer none, .pointer none]), (g11, 22, [.slice b L.length c]), (g4, 24, [.string r.lo, .string r.hi, .bool r.op])] := st24
      replace hSa := hSa.ext0 hx25
      replace hDa := hDa.ext0 hx25
      refine RP_e rfl (ef_store st24 rfl rfl rfl size_39 0 rfl rfl rfl rfl (.inr hg26)) ?_
      rintro _ w27 ⟨rfl, st28, hx29⟩
      replace st28 : St [] w w27 [(g26, 39, [.pointer (some ⟨ga, 0, none⟩), .pointer (some ⟨gda, 0, none⟩)]), (g11, 22, [.slice b L.length c]), (g4, 24, [.string r.lo, .string r.hi, .bool r.op])] := st28
      replace hSa := hSa.ext1 hx29 (st24.get 0 rfl) (by decide) (by decide) (by decide) (by decide)
      replace hDa := hDa.ext1 hx29 (st24.get 0 rfl) (by decide) (by decide)
      refine RP_seg 1 [.p (.bool true)] [0, 2, 3, 5, 9, 10] (by kernel_rfl) (fun _ => by kernel_rfl) (by kernel_rfl : pick _ _ = some [(0, .slice b L.length c), (2, .int .i64 branch), (3, .int .i64 leaf), (5, .pointer (some ⟨g4, 0, none⟩)), (9, .pointer (some ⟨g26, 0, none⟩)), (10, .bool true)]) (trivial) ?_
      refine RP_pick [0, 2, 3, 5, 9, 10] (by kernel_rfl : pick _ _ = some [(0, .slice b L.length c), (2, .int .i64 branch), (3, .int .i64 leaf), (5, .pointer (some ⟨g4, 0, none⟩)), (9, .pointer (some ⟨g26, 0, none⟩)), (10, .bool true)]) ?_
      refine RP_nil ?_
      refine n_then ?_
      refine W_seq ?_
      refine W_region ?_
      refine RP_seg 1 [.p (.slice b L.length c)] [2, 3, 5, 9, 10, 36] (by kernel_rfl) (fun _ => by kernel_rfl) (by kernel_rfl : pick _ _ = some [(2, .int .i64 branch), (3, .int .i64 leaf), (5, .pointer (some ⟨g4, 0, none⟩)), (9, .pointer (some ⟨g26, 0, none⟩)), (10, .bool true), (36, .slice b L.length c)]) (trivial) ?_
      have hlta := hSa.tr.m.lt
      refine RP_e rfl (ef_call (k := 12) (args := [.int .i64 7, .slice b L.length c]) (made_cr 7 (hl.ext st28.ext List.not_mem_nil) (hin.ext0 st28.ext) h7) body_12 (by kernel_rfl)) ?_
      rintro _ w30 ⟨_, rfl, gb, bmb, btb, pb, jb, gdb, bdb, cdb, rfl, hSb, -, hx32, hgb, hbmb, hbtb, hgdb⟩
      have st31 := st28.call0 hx32
      replace hSa := hSa.ext0 hx32
      replace hDa := hDa.ext0 hx32
      have hab : bmb ≠ bma := by omega
      replace hbmb : w.heap.size ≤ bmb := Nat.le_trans st28.ext.size hbmb
      have hb0 : bmb ≠ 0 := by have := hl.lt; omega
      refine RP_seg 3 [.p (.tuple #[.agg #[.pointer (some ⟨gb, 0, none⟩), .pointer (some ⟨gdb, 0, none⟩)], .bool true]), .p (.agg #[.pointer (some ⟨gb, 0, none⟩), .pointer (some ⟨gdb, 0, none⟩)]), .p (.bool true)] [2, 3, 5, 9, 10, 38, 39] (by kernel_rfl) (fun _ => by kernel_rfl) (by kernel_rfl : pick _ _ = some [(2, .int .i64 branch), (3, .int .i64 leaf), (5, .pointer (some ⟨g4, 0, none⟩)), (9, .pointer (some ⟨g26, 0, none⟩)), (10, .bool true), (38, .agg #[.pointer (some ⟨gb, 0, none⟩), .pointer (some ⟨gdb, 0, none⟩)]), (39, .bool true)]) (trivial) ?_
      refine RP_e rfl (ef_alloc st31 zero_39 rfl) ?_
      rintro _ w33 ⟨g36, rfl, hg36, hg36', st34, hx35⟩
      replace st34 : St [] w w33 [(g36, 39, [.pointer none, .pointer none]), (g26, 39, [.pointer (some ⟨ga, 0, none⟩), .pointer (some ⟨gda, 0, none⟩)]), (g11, 22, [.slice b L.length c]), (g4, 24, [.string r.lo, .string r.hi, .bool r.op])] := st34
      replace hSa := hSa.ext0 hx35
      replace hDa := hDa.ext0 hx35
      replace hSb := hSb.ext0 hx35
      refine RP_e rfl (ef_store st34 rfl rfl rfl size_39 0 rfl rfl rfl rfl (.inr hg36)) ?_
      rintro _ w37 ⟨rfl, st38, hx39⟩
      replace st38 : St [] w w37 [(g36, 39, [.pointer (some ⟨gb, 0, none⟩), .pointer (some ⟨gdb, 0, none⟩)]), (g26, 39, [.pointer (some ⟨ga, 0, none⟩), .pointer (some ⟨gda, 0, none⟩)]), (g11, 22, [.slice b L.length c]), (g4, 24, [.string r.lo, .string r.hi, .bool r.op])] := st38
      replace hSa := hSa.ext1 hx39 (st34.get 0 rfl) (by decide) (by decide) (by decide) (by decide)
      replace hDa := hDa.ext1 hx39 (st34.get 0 rfl) (by decide) (by decide)
      replace hSb := hSb.ext1 hx39 (st34.get 0 rfl) (by decide) (by decide) (by decide) (by decide)
      refine RP_seg 1 [.p (.bool true)] [2, 3, 5, 9, 10, 11, 12] (by kernel_rfl) (fun _ => by kernel_rfl) (by kernel_rfl : pick _ _ = some [(2, .int .i64 branch), (3, .int .i64 leaf), (5, .pointer (some ⟨g4, 0, none⟩)), (9, .pointer (some ⟨g26, 0, none⟩)), (10, .bool true), (11, .pointer (some ⟨g36, 0, none⟩)), (12, .bool true)]) (trivial) ?_
      refine RP_pick [2, 3, 5, 9, 10, 11, 12] (by kernel_rfl : pick _ _ = some [(2, .int .i64 branch), (3, .int .i64 leaf), (5, .pointer (some ⟨g4, 0, none⟩)), (9, .pointer (some ⟨g26, 0, none⟩)), (10, .bool true), (11, .pointer (some ⟨g36, 0, none⟩)), (12, .bool true)]) ?_
      refine RP_nil ?_
      refine n_then ?_
      refine W_seq ?_
      refine W_seq ?_
      refine W_region ?_
      refine RP_seg 6 [.p (.bool true), .p (.bool false), .p (.bool false), .p (.bool true), .p (.bool false), .p (.bool false)] [2, 3, 5, 9, 11, 45] (by kernel_rfl) (fun _ => by kernel_rfl) (by kernel_rfl : pick _ _ = some [(2, .int .i64 branch), (3, .int .i64 leaf), (5, .pointer (some ⟨g4, 0, none⟩)), (9, .pointer (some ⟨g26, 0, none⟩)), (11, .pointer (some ⟨g36, 0, none⟩)), (45, .bool false)]) (trivial) ?_
      refine RP_pick [2, 3, 5, 9, 11, 45] (by kernel_rfl : pick _ _ = some [(2, .int .i64 branch), (3, .int .i64 leaf), (5, .pointer (some ⟨g4, 0, none⟩)), (9, .pointer (some ⟨g26, 0, none⟩)), (11, .pointer (some ⟨g36, 0, none⟩)), (45, .bool false)]) ?_
      refine RP_nil ?_
      refine n_then ?_
      refine W_false rfl ?_
      refine W_skip ?_
      refine n_then ?_
      refine W_seq ?_
      refine W_region ?_
      refine RP_seg 3 [.p (.pointer (some ⟨g26, 1, none⟩)), .l 37 (.pointer (some ⟨g26, 1, none⟩)) (.pointer (some ⟨gda, 0, none⟩)), .l 24 (.pointer (some ⟨g4, 0, none⟩)) (.agg #[.string r.lo, .string r.hi, .bool r.op])] [2, 3, 5, 9, 11, 48, 49] (by kernel_rfl) (fun _ => by kernel_rfl) (by kernel_rfl : pick _ _ = some [(2, .int .i64 branch), (3, .int .i64 leaf), (5, .pointer (some ⟨g4, 0, none⟩)), (9, .pointer (some ⟨g26, 0, none⟩)), (11, .pointer (some ⟨g36, 0, none⟩)), (48, .pointer (some ⟨gda, 0, none⟩)), (49, .agg #[.string r.lo, .string r.hi, .bool r.op])]) ⟨ld1 st38 nagg_37 1 rfl rfl, ldN st38 agg_24 3 rfl rfl rfl, trivial⟩ ?_
      refine RP_e rfl (ef_call (k := 13) (args := [.pointer (some ⟨gda, 0, none⟩), .agg #[.string r.lo, .string r.hi, .bool r.op]]) (ref13print_cr r hDa (by omega) hkk) body_13 (by kernel_rfl)) ?_
      rintro _ w40 ⟨_, rfl, rfl, hx42⟩
      have st41 := st38.call0 hx42
      replace hSa := hSa.ext0 hx42
      replace hDa := hDa.ext0 hx42
      replace hSb := hSb.ext0 hx42
      refine RP_seg 3 [.p (.tuple #[.agg #[.int .i64 ((docP L r).k), .string ((docP L r).r.lo), .string ((docP L r).r.hi), .bool ((docP L r).r.op), .int .i64 ((docP L r).t.k), .int .u64 ((docP L r).t.a), .int .u64 ((docP L r).t.b), .slice ((docP L r).eb) ((docP L r).es.length) ((docP L r).ec)], .int .i64 (printErr r)]), .p (.agg #[.int .i64 ((docP L r).k), .string ((docP L r).r.lo), .string ((docP L r).r.hi), .bool ((docP L r).r.op), .int .i64 ((docP L r).t.k), .int .u64 ((docP L r).t.a), .int .u64 ((docP L r).t.b), .slice ((docP L r).eb) ((docP L r).es.length) ((docP L r).ec)]), .p (.int .i64 (printErr r))] [2, 3, 5, 9, 11, 51, 52] (by kernel_rfl) (fun _ => by kernel_rfl) (by kernel_rfl : pick _ _ = some [(2, .int .i64 branch), (3, .int .i64 leaf), (5, .pointer (some ⟨g4, 0, none⟩)), (9, .pointer (some ⟨g26, 0, none⟩)), (11, .pointer (some ⟨g36, 0, none⟩)), (51, .agg #[.int .i64 ((docP L r).k), .string ((docP L r).r.lo), .string ((docP L r).r.hi), .bool ((docP L r).r.op), .int .i64 ((docP L r).t.k), .int .u64 ((docP L r).t.a), .int .u64 ((docP L r).t.b), .slice ((docP L r).eb) ((docP L r).es.length) ((docP L r).ec)]), (52, .int .i64 (printErr r))]) (trivial) ?_
      refine RP_e rfl (ef_alloc st41 zero_34 rfl) ?_
      rintro _ w43 ⟨g46, rfl, hg46, hg46', st44, hx45⟩
      replace st44 : St [] w w43 [(g46, 34, [.int .i64 0, .string (⟨#[]⟩ : ByteArray), .string (⟨#[]⟩ : ByteArray), .bool false, .int .i64 0, .int .u64 0, .int .u64 0, .slice none 0 0]), (g36, 39, [.pointer (some ⟨gb, 0, none⟩), .pointer (some ⟨gdb, 0, none⟩)]), (g26, 39, [.pointer (some ⟨ga, 0, none⟩), .pointer (some ⟨gda, 0, none⟩)]), (g11, 22, [.slice b L.length c]), (g4, 24, [.string r.lo, .string r.hi, .bool r.op])] := st44
      replace hSa := hSa.ext0 hx45
      replace hDa := hDa.ext0 hx45
      replace hSb := hSb.ext0 hx45
      refine RP_e rfl (ef_store st44 rfl rfl rfl size_34 0 rfl rfl rfl rfl (.inr hg46)) ?_
      rintro _ w47 ⟨rfl, st48, hx49⟩
      replace st48 : St [] w w47 [(g46, 34, [.int .i64 ((docP L r).k), .string ((docP L r).r.lo), .string ((docP L r).r.hi), .bool ((docP L r).r.op), .int .i64 ((docP L r).t.k), .int .u64 ((docP L r).t.a), .int .u64 ((docP L r).t.b), .slice ((docP L r).eb) ((docP L r).es.length) ((docP L r).ec)]), (g36, 39, [.pointer (some ⟨gb, 0, none⟩), .pointer (some ⟨gdb, 0, none⟩)]), (g26, 39, [.pointer (some ⟨ga, 0, none⟩), .pointer (some ⟨gda, 0, none⟩)]), (g11, 22, [.slice b L.length c]), (g4, 24, [.string r.lo, .string r.hi, .bool r.op])] := st48
      replace hSa := hSa.ext1 hx49 (st44.get 0 rfl) (by decide) (by decide) (by decide) (by decide)
      replace hDa := hDa.ext1 hx49 (st44.get 0 rfl) (by decide) (by decide)
      replace hSb := hSb.ext1 hx49 (st44.get 0 rfl) (by decide) (by decide) (by decide) (by decide)
      refine RP_seg 1 [.p (.int .i64 (printErr r))] [2, 3, 5, 9, 11, 14] (by kernel_rfl) (fun _ => by kernel_rfl) (by kernel_rfl : pick _ _ = some [(2, .int .i64 branch), (3, .int .i64 leaf), (5, .pointer (some ⟨g4, 0, none⟩)), (9, .pointer (some ⟨g26, 0, none⟩)), (11, .pointer (some ⟨g36, 0, none⟩)), (14, .int .i64 (printErr r))]) (trivial) ?_
      refine RP_pick [2, 3, 5, 9, 11, 14] (by kernel_rfl : pick _ _ = some [(2, .int .i64 branch), (3, .int .i64 leaf), (5, .pointer (some ⟨g4, 0, none⟩)), (9, .pointer (some ⟨g26, 0, none⟩)), (11, .pointer (some ⟨g36, 0, none⟩)), (14, .int .i64 (printErr r))]) ?_
      refine RP_nil ?_
      refine n_then ?_
      refine W_seq ?_
      refine W_seq ?_
      refine W_region ?_
      refine RP_seg 3 [.p (.int .i64 (printErr r)), .p (.bool ((printErr r) != 0)), .p (.bool ((printErr r) != 0))] [2, 3, 5, 9, 11, 55] (by kernel_rfl) (fun _ => by kernel_rfl) (by kernel_rfl : pick _ _ = some [(2, .int .i64 branch), (3, .int .i64 leaf), (5, .pointer (some ⟨g4, 0, none⟩)), (9, .pointer (some ⟨g26, 0, none⟩)), (11, .pointer (some ⟨g36, 0, none⟩)), (55, .bool ((printErr r) != 0))]) (trivial) ?_
      rcases Bool.eq_false_or_eq_true ((printErr r) != 0) with c55_50 | c55_50
      ·
        refine RP_at (m' := [(2, .int .i64 branch), (3, .int .i64 leaf), (5, .pointer (some ⟨g4, 0, none⟩)), (9, .pointer (some ⟨g26, 0, none⟩)), (11, .pointer (some ⟨g36, 0, none⟩)), (55, .bool true)]) (by rw [c55_50]) ?_
        refine RP_seg 15 [.no, .no, .p (.bool true), .p (.bool true), .no, .no, .p (.bool true), .p (.bool true), .no, .no, .p (.bool true), .p (.bool true), .no, .no, .p (.bool true)] [2, 3, 5, 9, 11, 70] (by kernel_rfl) (fun _ => by kernel_rfl) (by kernel_rfl : pick _ _ = some [(2, .int .i64 branch), (3, .int .i64 leaf), (5, .pointer (some ⟨g4, 0, none⟩)), (9, .pointer (some ⟨g26, 0, none⟩)), (11, .pointer (some ⟨g36, 0, none⟩)), (70, .bool true)]) (trivial) ?_
        refine RP_pick [2, 3, 5, 9, 11, 70] (by kernel_rfl : pick _ _ = some [(2, .int .i64 branch), (3, .int .i64 leaf), (5, .pointer (some ⟨g4, 0, none⟩)), (9, .pointer (some ⟨g26, 0, none⟩)), (11, .pointer (some ⟨g36, 0, none⟩)), (70, .bool true)]) ?_
        refine RP_nil ?_
        refine n_then ?_
        refine W_true rfl ?_
        refine W_seq ?_
        refine W_region ?_
        refine RP_seg 1 [.p (.bool true)] [8] (by kernel_rfl) (fun _ => by kernel_rfl) (by kernel_rfl : pick _ _ = some [(8, .bool true)]) (trivial) ?_
        refine RP_pick [8] (by kernel_rfl : pick _ _ = some [(8, .bool true)]) ?_
        refine RP_nil ?_
        refine n_then ?_
        refine W_ret ?_
        refine r_then ?_
        refine ret_of (P := Tryd.prog) (fn := Tryd.f3) (m := [(8, .bool true)]) (w := w47) (res1 rfl (rv_tmp rfl)) ?_
        -- return 2: .bool true
        exact ⟨rfl, st48.ext⟩
      ·
        refine RP_at (m' := [(2, .int .i64 branch), (3, .int .i64 leaf), (5, .pointer (some ⟨g4, 0, none⟩)), (9, .pointer (some ⟨g26, 0, none⟩)), (11, .pointer (some ⟨g36, 0, none⟩)), (55, .bool false)]) (by rw [c55_50]) ?_
        refine RP_seg 4 [.p (.int .i64 branch), .p (.bool (decide (branch < 2))), .p (.bool (decide (branch < 2))), .p (.bool (decide (branch < 2)))] [2, 3, 5, 9, 11, 59] (by kernel_rfl) (fun _ => by kernel_rfl) (by kernel_rfl : pick _ _ = some [(2, .int .i64 branch), (3, .int .i64 leaf), (5, .pointer (some ⟨g4, 0, none⟩)), (9, .pointer (some ⟨g26, 0, none⟩)), (11, .pointer (some ⟨g36, 0, none⟩)), (59, .bool (decide (branch < 2)))]) (trivial) ?_
        rcases Bool.eq_false_or_eq_true (decide (branch < 2)) with c59_51 | c59_51
        ·
          have c59_51p := of_decide_eq_true c59_51
          refine RP_at (m' := [(2, .int .i64 branch), (3, .int .i64 leaf), (5, .pointer (some ⟨g4, 0, none⟩)), (9, .pointer (some ⟨g26, 0, none⟩)), (11, .pointer (some ⟨g36, 0, none⟩)), (59, .bool true)]) (by rw [c59_51]) ?_
          refine RP_seg 11 [.no, .no, .p (.bool true), .p (.bool true), .no, .no, .p (.bool true), .p (.bool true), .no, .no, .p (.bool true)] [2, 3, 5, 9, 11, 70] (by kernel_rfl) (fun _ => by kernel_rfl) (by kernel_rfl : pick _ _ = some [(2, .int .i64 branch), (3, .int .i64 leaf), (5, .pointer (some ⟨g4, 0, none⟩)), (9, .pointer (some ⟨g26, 0, none⟩)), (11, .pointer (some ⟨g36, 0, none⟩)), (70, .bool true)]) (trivial) ?_
          refine RP_pick [2, 3, 5, 9, 11, 70] (by kernel_rfl : pick _ _ = some [(2, .int .i64 branch), (3, .int .i64 leaf), (5, .pointer (some ⟨g4, 0, none⟩)), (9, .pointer (some ⟨g26, 0, none⟩)), (11, .pointer (some ⟨g36, 0, none⟩)), (70, .bool true)]) ?_
          refine RP_nil ?_
          refine n_then ?_
          refine W_true rfl ?_
          refine W_seq ?_
          refine W_region ?_
          refine RP_seg 1 [.p (.bool true)] [8] (by kernel_rfl) (fun _ => by kernel_rfl) (by kernel_rfl : pick _ _ = some [(8, .bool true)]) (trivial) ?_
          refine RP_pick [8] (by kernel_rfl : pick _ _ = some [(8, .bool true)]) ?_
          refine RP_nil ?_
          refine n_then ?_
          refine W_ret ?_
          refine r_then ?_
          refine ret_of (P := Tryd.prog) (fn := Tryd.f3) (m := [(8, .bool true)]) (w := w47) (res1 rfl (rv_tmp rfl)) ?_
          -- return 3: .bool true
          exact ⟨rfl, st48.ext⟩
        ·
          have c59_51p := of_decide_eq_false c59_51
          refine RP_at (m' := [(2, .int .i64 branch), (3, .int .i64 leaf), (5, .pointer (some ⟨g4, 0, none⟩)), (9, .pointer (some ⟨g26, 0, none⟩)), (11, .pointer (some ⟨g36, 0, none⟩)), (59, .bool false)]) (by rw [c59_51]) ?_
          refine RP_seg 4 [.p (.int .i64 branch), .p (.bool (decide (branch > 16))), .p (.bool (decide (branch > 16))), .p (.bool (decide (branch > 16)))] [2, 3, 5, 9, 11, 63] (by kernel_rfl) (fun _ => by kernel_rfl) (by kernel_rfl : pick _ _ = some [(2, .int .i64 branch), (3, .int .i64 leaf), (5, .pointer (some ⟨g4, 0, none⟩)), (9, .pointer (some ⟨g26, 0, none⟩)), (11, .pointer (some ⟨g36, 0, none⟩)), (63, .bool (decide (branch > 16)))]) (trivial) ?_
          rcases Bool.eq_false_or_eq_true (decide (branch > 16)) with c63_52 | c63_52
          ·
            have c63_52p := of_decide_eq_true c63_52
            refine RP_at (m' := [(2, .int .i64 branch), (3, .int .i64 leaf), (5, .pointer (some ⟨g4, 0, none⟩)), (9, .pointer (some ⟨g26, 0, none⟩)), (11, .pointer (some ⟨g36, 0, none⟩)), (63, .bool true)]) (by rw [c63_52]) ?_
            refine RP_seg 7 [.no, .no, .p (.bool true), .p (.bool true), .no, .no, .p (.bool true)] [2, 3, 5, 9, 11, 70] (by kernel_rfl) (fun _ => by kernel_rfl) (by kernel_rfl : pick _ _ = some [(2, .int .i64 branch), (3, .int .i64 leaf), (5, .pointer (some ⟨g4, 0, none⟩)), (9, .pointer (some ⟨g26, 0, none⟩)), (11, .pointer (some ⟨g36, 0, none⟩)), (70, .bool true)]) (trivial) ?_
            refine RP_pick [2, 3, 5, 9, 11, 70] (by kernel_rfl : pick _ _ = some [(2, .int .i64 branch), (3, .int .i64 leaf), (5, .pointer (some ⟨g4, 0, none⟩)), (9, .pointer (some ⟨g26, 0, none⟩)), (11, .pointer (some ⟨g36, 0, none⟩)), (70, .bool true)]) ?_
            refine RP_nil ?_
            refine n_then ?_
            refine W_true rfl ?_
            refine W_seq ?_
            refine W_region ?_
            refine RP_seg 1 [.p (.bool true)] [8] (by kernel_rfl) (fun _ => by kernel_rfl) (by kernel_rfl : pick _ _ = some [(8, .bool true)]) (trivial) ?_
            refine RP_pick [8] (by kernel_rfl : pick _ _ = some [(8, .bool true)]) ?_
            refine RP_nil ?_
            refine n_then ?_
            refine W_ret ?_
            refine r_then ?_
            refine ret_of (P := Tryd.prog) (fn := Tryd.f3) (m := [(8, .bool true)]) (w := w47) (res1 rfl (rv_tmp rfl)) ?_
            -- return 4: .bool true
            exact ⟨rfl, st48.ext⟩
          ·
            have c63_52p := of_decide_eq_false c63_52
            refine RP_at (m' := [(2, .int .i64 branch), (3, .int .i64 leaf), (5, .pointer (some ⟨g4, 0, none⟩)), (9, .pointer (some ⟨g26, 0, none⟩)), (11, .pointer (some ⟨g36, 0, none⟩)), (63, .bool false)]) (by rw [c63_52]) ?_
            refine RP_seg 4 [.p (.int .i64 leaf), .p (.bool (decide (leaf < 1))), .p (.bool (decide (leaf < 1))), .p (.bool (decide (leaf < 1)))] [2, 3, 5, 9, 11, 67] (by kernel_rfl) (fun _ => by kernel_rfl) (by kernel_rfl : pick _ _ = some [(2, .int .i64 branch), (3, .int .i64 leaf), (5, .pointer (some ⟨g4, 0, none⟩)), (9, .pointer (some ⟨g26, 0, none⟩)), (11, .pointer (some ⟨g36, 0, none⟩)), (67, .bool (decide (leaf < 1)))]) (trivial) ?_
            rcases Bool.eq_false_or_eq_true (decide (leaf < 1)) with c67_53 | c67_53
            ·
              have c67_53p := of_decide_eq_true c67_53
              refine RP_at (m' := [(2, .int .i64 branch), (3, .int .i64 leaf), (5, .pointer (some ⟨g4, 0, none⟩)), (9, .pointer (some ⟨g26, 0, none⟩)), (11, .pointer (some ⟨g36, 0, none⟩)), (67, .bool true)]) (by rw [c67_53]) ?_
              refine RP_seg 3 [.no, .no, .p (.bool true)] [2, 3, 5, 9, 11, 70] (by kernel_rfl) (fun _ => by kernel_rfl) (by kernel_rfl : pick _ _ = some [(2, .int .i64 branch), (3, .int .i64 leaf), (5, .pointer (some ⟨g4, 0, none⟩)), (9, .pointer (some ⟨g26, 0, none⟩)), (11, .pointer (some ⟨g36, 0, none⟩)), (70, .bool true)]) (trivial) ?_
              refine RP_pick [2, 3, 5, 9, 11, 70] (by kernel_rfl : pick _ _ = some [(2, .int .i64 branch), (3, .int .i64 leaf), (5, .pointer (some ⟨g4, 0, none⟩)), (9, .pointer (some ⟨g26, 0, none⟩)), (11, .pointer (some ⟨g36, 0, none⟩)), (70, .bool true)]) ?_
              refine RP_nil ?_
              refine n_then ?_
              refine W_true rfl ?_
              refine W_seq ?_
              refine W_region ?_
              refine RP_seg 1 [.p (.bool true)] [8] (by kernel_rfl) (fun _ => by kernel_rfl) (by kernel_rfl : pick _ _ = some [(8, .bool true)]) (trivial) ?_
              refine RP_pick [8] (by kernel_rfl : pick _ _ = some [(8, .bool true)]) ?_
              refine RP_nil ?_
              refine n_then ?_
              refine W_ret ?_
              refine r_then ?_
              refine ret_of (P := Tryd.prog) (fn := Tryd.f3) (m := [(8, .bool true)]) (w := w47) (res1 rfl (rv_tmp rfl)) ?_
              -- return 5: .bool true
              exact ⟨rfl, st48.ext⟩
            ·
              have c67_53p := of_decide_eq_false c67_53
              refine RP_at (m' := [(2, .int .i64 branch), (3, .int .i64 leaf), (5, .pointer (some ⟨g4, 0, none⟩)), (9, .pointer (some ⟨g26, 0, none⟩)), (11, .pointer (some ⟨g36, 0, none⟩)), (67, .bool false)]) (by rw [c67_53]) ?_
              refine RP_seg 3 [.p (.int .i64 leaf), .p (.bool (decide (leaf > 32))), .p (.bool (decide (leaf > 32)))] [2, 3, 5, 9, 11, 70] (by kernel_rfl) (fun _ => by kernel_rfl) (by kernel_rfl : pick _ _ = some [(2, .int .i64 branch), (3, .int .i64 leaf), (5, .pointer (some ⟨g4, 0, none⟩)), (9, .pointer (some ⟨g26, 0, none⟩)), (11, .pointer (some ⟨g36, 0, none⟩)), (70, .bool (decide (leaf > 32)))]) (trivial) ?_
              refine RP_pick [2, 3, 5, 9, 11, 70] (by kernel_rfl : pick _ _ = some [(2, .int .i64 branch), (3, .int .i64 leaf), (5, .pointer (some ⟨g4, 0, none⟩)), (9, .pointer (some ⟨g26, 0, none⟩)), (11, .pointer (some ⟨g36, 0, none⟩)), (70, .bool (decide (leaf > 32)))]) ?_
              refine RP_nil ?_
              refine n_then ?_
              refine W_cond rfl (fun c70_54 => ?_) (fun c70_54 => ?_)
              ·
                have c70_54p := of_decide_eq_true c70_54
                refine W_seq ?_
                refine W_region ?_
                refine RP_seg 1 [.p (.bool true)] [8] (by kernel_rfl) (fun _ => by kernel_rfl) (by kernel_rfl : pick _ _ = some [(8, .bool true)]) (trivial) ?_
                refine RP_pick [8] (by kernel_rfl : pick _ _ = some [(8, .bool true)]) ?_
                refine RP_nil ?_
                refine n_then ?_
                refine W_ret ?_
                refine r_then ?_
                refine ret_of (P := Tryd.prog) (fn := Tryd.f3) (m := [(8, .bool true)]) (w := w47) (res1 rfl (rv_tmp rfl)) ?_
                -- return 6: .bool true
                exact ⟨rfl, st48.ext⟩
              ·
                have c70_54p := of_decide_eq_false c70_54
                refine W_skip ?_
                refine n_then ?_
                refine W_seq ?_
                refine W_region ?_
                refine RP_seg 3 [.p (.pointer (some ⟨g26, 0, none⟩)), .l 36 (.pointer (some ⟨g26, 0, none⟩)) (.pointer (some ⟨ga, 0, none⟩)), .l 24 (.pointer (some ⟨g4, 0, none⟩)) (.agg #[.string r.lo, .string r.hi, .bool r.op])] [2, 3, 11, 73, 74] (by kernel_rfl) (fun _ => by kernel_rfl) (by kernel_rfl : pick _ _ = some [(2, .int .i64 branch), (3, .int .i64 leaf), (11, .pointer (some ⟨g36, 0, none⟩)), (73, .pointer (some ⟨ga, 0, none⟩)), (74, .agg #[.string r.lo, .string r.hi, .bool r.op])]) ⟨ld1 st48 nagg_36 2 rfl rfl, ldN st48 agg_24 4 rfl rfl rfl, trivial⟩ ?_
                have hpe : printErr r = 0 := by simpa using c55_50
                have hSb2 := hSb
                clear hDa
                refine RP_e rfl (ef_call (k := 14) (args := [.pointer (some ⟨ga, 0, none⟩), .agg #[.string r.lo, .string r.hi, .bool r.op]]) (matchPrint_ok r hSa (by omega) hpe) body_14 (by kernel_rfl)) ?_
                rintro _ w55 ⟨_, rfl, rfl, ⟨j2, hSa2⟩, hx57⟩
                have st56 := st48.call hx57 (st48.apartM hSa.tr.m rfl) (by simpa using hbma)
                replace hSb := hSb2.extM hx57 hSa.tr.m hab
                clear hSb2 hSa hSa2
                refine RP_seg 3 [.p (.tuple #[.agg #[.int .i64 1, .string r.lo, .string r.hi, .bool r.op, .int .i64 (((T.load L).foldR r).k), .int .u64 (((T.load L).foldR r).a), .int .u64 (((T.load L).foldR r).b), .slice none 0 0], .int .i64 0]), .p (.agg #[.int .i64 1, .string r.lo, .string r.hi, .bool r.op, .int .i64 (((T.load L).foldR r).k), .int .u64 (((T.load L).foldR r).a), .int .u64 (((T.load L).foldR r).b), .slice none 0 0]), .p (.int .i64 0)] [2, 3, 11, 76, 77] (by kernel_rfl) (fun _ => by kernel_rfl) (by kernel_rfl : pick _ _ = some [(2, .int .i64 branch), (3, .int .i64 leaf), (11, .pointer (some ⟨g36, 0, none⟩)), (76, .agg #[.int .i64 1, .string r.lo, .string r.hi, .bool r.op, .int .i64 (((T.load L).foldR r).k), .int .u64 (((T.load L).foldR r).a), .int .u64 (((T.load L).foldR r).b), .slice none 0 0]), (77, .int .i64 0)]) (trivial) ?_
                refine RP_e rfl (ef_alloc st56 zero_34 rfl) ?_
                rintro _ w58 ⟨g61, rfl, hg61, hg61', st59, hx60⟩
                replace st59 : St [] w w58 [(g61, 34, [.int .i64 0, .string (⟨#[]⟩ : ByteArray), .string (⟨#[]⟩ : ByteArray), .bool false, .int .i64 0, .int .u64 0, .int .u64 0, .slice none 0 0]), (g46, 34, [.int .i64 ((docP L r).k), .string ((docP L r).r.lo), .string ((docP L r).r.hi), .bool ((docP L r).r.op), .int .i64 ((docP L r).t.k), .int .u64 ((docP L r).t.a), .int .u64 ((docP L r).t.b), .slice ((docP L r).eb) ((docP L r).es.length) ((docP L r).ec)]), (g36, 39, [.pointer (some ⟨gb, 0, none⟩), .pointer (some ⟨gdb, 0, none⟩)]), (g26, 39, [.pointer (some ⟨ga, 0, none⟩), .pointer (some ⟨gda, 0, none⟩)]), (g11, 22, [.slice b L.length c]), (g4, 24, [.string r.lo, .string r.hi, .bool r.op])] := st59
                replace hSb := hSb.ext0 hx60
                refine RP_e rfl (ef_store st59 rfl rfl rfl size_34 0 rfl rfl rfl rfl (.inr hg61)) ?_
                rintro _ w62 ⟨rfl, st63, hx64⟩
                replace st63 : St [] w w62 [(g61, 34, [.int .i64 1, .string r.lo, .string r.hi, .bool r.op, .int .i64 (((T.load L).foldR r).k), .int .u64 (((T.load L).foldR r).a), .int .u64 (((T.load L).foldR r).b), .slice none 0 0]), (g46, 34, [.int .i64 ((docP L r).k), .string ((docP L r).r.lo), .string ((docP L r).r.hi), .bool ((docP L r).r.op), .int .i64 ((docP L r).t.k), .int .u64 ((docP L r).t.a), .int .u64 ((docP L r).t.b), .slice ((docP L r).eb) ((docP L r).es.length) ((docP L r).ec)]), (g36, 39, [.pointer (some ⟨gb, 0, none⟩), .pointer (some ⟨gdb, 0, none⟩)]), (g26, 39, [.pointer (some ⟨ga, 0, none⟩), .pointer (some ⟨gda, 0, none⟩)]), (g11, 22, [.slice b L.length c]), (g4, 24, [.string r.lo, .string r.hi, .bool r.op])] := st63
                replace hSb := hSb.ext1 hx64 (st59.get 0 rfl) (by decide) (by decide) (by decide) (by decide)
                refine RP_seg 1 [.p (.int .i64 0)] [2, 3, 11, 15, 16] (by kernel_rfl) (fun _ => by kernel_rfl) (by kernel_rfl : pick _ _ = some [(2, .int .i64 branch), (3, .int .i64 leaf), (11, .pointer (some ⟨g36, 0, none⟩)), (15, .pointer (some ⟨g61, 0, none⟩)), (16, .int .i64 0)]) (trivial) ?_
                refine RP_pick [2, 3, 11, 15, 16] (by kernel_rfl : pick _ _ = some [(2, .int .i64 branch), (3, .int .i64 leaf), (11, .pointer (some ⟨g36, 0, none⟩)), (15, .pointer (some ⟨g61, 0, none⟩)), (16, .int .i64 0)]) ?_
                refine RP_nil ?_
                refine n_then ?_
                refine W_seq ?_
                refine W_region ?_
                refine RP_seg 5 [.p (.pointer (some ⟨g36, 0, none⟩)), .l 36 (.pointer (some ⟨g36, 0, none⟩)) (.pointer (some ⟨gb, 0, none⟩)), .p (.int .i64 branch), .p (.int .i64 leaf), .l 34 (.pointer (some ⟨g61, 0, none⟩)) (.agg #[.int .i64 1, .string r.lo, .string r.hi, .bool r.op, .int .i64 (((T.load L).foldR r).k), .int .u64 (((T.load L).foldR r).a), .int .u64 (((T.load L).foldR r).b), .slice none 0 0])] [16, 80, 81, 82, 83] (by kernel_rfl) (fun _ => by kernel_rfl) (by kernel_rfl : pick _ _ = some [(16, .int .i64 0), (80, .pointer (some ⟨gb, 0, none⟩)), (81, .int .i64 branch), (82, .int .i64 leaf), (83, .agg #[.int .i64 1, .string r.lo, .string r.hi, .bool r.op, .int .i64 (((T.load L).foldR r).k), .int .u64 (((T.load L).foldR r).a), .int .u64 (((T.load L).foldR r).b), .slice none 0 0])]) ⟨ld1 st63 nagg_36 2 rfl rfl, ldN st63 agg_34 0 rfl rfl rfl, trivial⟩ ?_
                have hcp := checkPrint hpe (foldR_may (T.load L) r (by omega))
                have hmc : mCheck branch leaf = 0 := by unfold mCheck; rw [c59_51, c63_52, c67_53, c70_54]; rfl
                refine RP_e rfl (ef_call (k := 15) (args := [.pointer (some ⟨gb, 0, none⟩), .int .i64 branch, .int .i64 leaf, .agg #[.int .i64 1, .string r.lo, .string r.hi, .bool r.op, .int .i64 (((T.load L).foldR r).k), .int .u64 (((T.load L).foldR r).a), .int .u64 (((T.load L).foldR r).b), .slice none 0 0]]) (matchCompareSame_cr branch leaf ⟨1, r, (T.load L).foldR r, [], none, 0⟩ hSb (by omega) (.inl rfl) (show 0 < 1000000 by decide) hmc rfl hcp.1 hcp.2 (by simp [Tal.eq]) (by simpa [sp] using hb0.symm)) body_15 (by kernel_rfl)) ?_
                rintro _ w65 ⟨_, rfl, rfl, -, hx67⟩
                have st66 := st63.call hx67 (st63.apartM hSb.tr.m rfl) (by simpa using hbmb)
                refine RP_seg 5 [.p (.tuple #[.slice none 0 0, .int .i64 0]), .p (.slice none 0 0), .p (.int .i64 0), .p (.slice none 0 0), .p (.int .i64 0)] [16, 17, 18] (by kernel_rfl) (fun _ => by kernel_rfl) (by kernel_rfl : pick _ _ = some [(16, .int .i64 0), (17, .slice none 0 0), (18, .int .i64 0)]) (trivial) ?_
                refine RP_pick [16, 17, 18] (by kernel_rfl : pick _ _ = some [(16, .int .i64 0), (17, .slice none 0 0), (18, .int .i64 0)]) ?_
                refine RP_nil ?_
                refine n_then ?_
                refine W_seq ?_
                refine W_region ?_
                refine RP_seg 12 [.p (.int .i64 0), .p (.bool true), .p (.bool true), .p (.int .i64 0), .p (.bool true), .p (.bool true), .p (.bool true), .p (.slice none 0 0), .p (.int .i64 0), .p (.bool true), .p (.bool true), .p (.bool true)] [8] (by kernel_rfl) (fun _ => by kernel_rfl) (by kernel_rfl : pick _ _ = some [(8, .bool true)]) (trivial) ?_
                refine RP_pick [8] (by kernel_rfl : pick _ _ = some [(8, .bool true)]) ?_
                refine RP_nil ?_
                refine n_then ?_
                refine W_ret ?_
                refine ret_of (P := Tryd.prog) (fn := Tryd.f3) (m := [(8, .bool true)]) (w := w65) (res1 rfl (rv_tmp rfl)) ?_
                -- return 7: .bool true
                exact ⟨rfl, st66.ext⟩
end Go.Proofs.YtcopemgkjbaaeaaDoor
