/-
  match.check, Print, Compare (where the tallies are the same).
-/
import Derived.Test.YtcopemgkjbaaeaaDoorFr2
namespace Go.Proofs.YtcopemgkjbaaeaaDoor
set_option linter.all false
open Go.RowKit

theorem InS.of_blk {w : World} {g : Nat} {t : TypeId} {cs : List Value} (h : Blk w g t cs.toArray) : InS w (some ⟨g, 0, none⟩) cs := .inr ⟨rfl, h.lt, fun j u hu => by
  show w.cell? ⟨g, 0 + j, none⟩ = some u
  rw [Nat.zero_add, h.cell j]; simpa using hu⟩
def mCheck (branch leaf : Int) : Int := cond (((decide (branch < 2) || decide (branch > 16)) || decide (leaf < 1)) || decide (leaf > 32)) 1 0
theorem matchCheck_cr (branch leaf : Int) (w : World) : CR Tryd.prog 46 [.int .i64 branch, .int .i64 leaf] w fun v w' => v = .int .i64 (mCheck branch leaf) ∧ w = w' := by
  have st := St.init w []
  unfold mCheck
  refine CR_enter Tryd.func46 rfl Tryd.ntmps46 rfl ?_
  refine W_seq ?_
  refine W_region ?_
  refine RP_seg 1 [.p (.int .i64 0)] [0, 1] (by kernel_rfl) (fun _ => by kernel_rfl) (by kernel_rfl : pick _ _ = some [(0, .int .i64 branch), (1, .int .i64 leaf)]) (trivial) ?_
  refine RP_pick [0, 1] (by kernel_rfl : pick _ _ = some [(0, .int .i64 branch), (1, .int .i64 leaf)]) ?_
  refine RP_nil ?_
  refine n_then ?_
  refine W_seq ?_
  refine W_seq ?_
  refine W_region ?_
  refine RP_seg 3 [.p (.int .i64 branch), .p (.bool (decide (branch < 2))), .p (.bool (decide (branch < 2)))] [0, 1, 7] (by kernel_rfl) (fun _ => by kernel_rfl) (by kernel_rfl : pick _ _ = some [(0, .int .i64 branch), (1, .int .i64 leaf), (7, .bool (decide (branch < 2)))]) (trivial) ?_
  rcases Bool.eq_false_or_eq_true (decide (branch < 2)) with c7_1 | c7_1
  ·
    have c7_1p := of_decide_eq_true c7_1
    refine RP_at (m' := [(0, .int .i64 branch), (1, .int .i64 leaf), (7, .bool true)]) (by rw [c7_1]) ?_
    refine RP_seg 11 [.no, .no, .p (.bool true), .p (.bool true), .no, .no, .p (.bool true), .p (.bool true), .no, .no, .p (.bool true)] [18] (by kernel_rfl) (fun _ => by kernel_rfl) (by kernel_rfl : pick _ _ = some [(18, .bool true)]) (trivial) ?_
    refine RP_pick [18] (by kernel_rfl : pick _ _ = some [(18, .bool true)]) ?_
    refine RP_nil ?_
    refine n_then ?_
    refine W_true rfl ?_
    refine W_seq ?_
    refine W_region ?_
    refine RP_seg 1 [.p (.int .i64 1)] [4] (by kernel_rfl) (fun _ => by kernel_rfl) (by kernel_rfl : pick _ _ = some [(4, .int .i64 1)]) (trivial) ?_
    refine RP_pick [4] (by kernel_rfl : pick _ _ = some [(4, .int .i64 1)]) ?_
    refine RP_nil ?_
    refine n_then ?_
    refine W_ret ?_
    refine r_then ?_
    refine ret_of (P := Tryd.prog) (fn := Tryd.f46) (m := [(4, .int .i64 1)]) (w := w) (res1 rfl (rv_tmp rfl)) ?_
    -- return 0: .int .i64 1
    exact ⟨by (try rw [c7_1]); rfl, rfl⟩
  ·
    have c7_1p := of_decide_eq_false c7_1
    refine RP_at (m' := [(0, .int .i64 branch), (1, .int .i64 leaf), (7, .bool false)]) (by rw [c7_1]) ?_
    refine RP_seg 4 [.p (.int .i64 branch), .p (.bool (decide (branch > 16))), .p (.bool (decide (branch > 16))), .p (.bool (decide (branch > 16)))] [1, 11] (by kernel_rfl) (fun _ => by kernel_rfl) (by kernel_rfl : pick _ _ = some [(1, .int .i64 leaf), (11, .bool (decide (branch > 16)))]) (trivial) ?_
    rcases Bool.eq_false_or_eq_true (decide (branch > 16)) with c11_2 | c11_2
    ·
      have c11_2p := of_decide_eq_true c11_2
      refine RP_at (m' := [(1, .int .i64 leaf), (11, .bool true)]) (by rw [c11_2]) ?_
      refine RP_seg 7 [.no, .no, .p (.bool true), .p (.bool true), .no, .no, .p (.bool true)] [18] (by kernel_rfl) (fun _ => by kernel_rfl) (by kernel_rfl : pick _ _ = some [(18, .bool true)]) (trivial) ?_
      refine RP_pick [18] (by kernel_rfl : pick _ _ = some [(18, .bool true)]) ?_
      refine RP_nil ?_
      refine n_then ?_
      refine W_true rfl ?_
      refine W_seq ?_
      refine W_region ?_
      refine RP_seg 1 [.p (.int .i64 1)] [4] (by kernel_rfl) (fun _ => by kernel_rfl) (by kernel_rfl : pick _ _ = some [(4, .int .i64 1)]) (trivial) ?_
      refine RP_pick [4] (by kernel_rfl : pick _ _ = some [(4, .int .i64 1)]) ?_
      refine RP_nil ?_
      refine n_then ?_
      refine W_ret ?_
      refine r_then ?_
      refine ret_of (P := Tryd.prog) (fn := Tryd.f46) (m := [(4, .int .i64 1)]) (w := w) (res1 rfl (rv_tmp rfl)) ?_
      -- return 1: .int .i64 1
      exact ⟨by (try rw [c7_1]); (try rw [c11_2]); rfl, rfl⟩
    ·
      have c11_2p := of_decide_eq_false c11_2
      refine RP_at (m' := [(1, .int .i64 leaf), (11, .bool false)]) (by rw [c11_2]) ?_
      refine RP_seg 4 [.p (.int .i64 leaf), .p (.bool (decide (leaf < 1))), .p (.bool (decide (leaf < 1))), .p (.bool (decide (leaf < 1)))] [1, 15] (by kernel_rfl) (fun _ => by kernel_rfl) (by kernel_rfl : pick _ _ = some [(1, .int .i64 leaf), (15, .bool (decide (leaf < 1)))]) (trivial) ?_
      rcases Bool.eq_false_or_eq_true (decide (leaf < 1)) with c15_3 | c15_3
      ·
        have c15_3p := of_decide_eq_true c15_3
        refine RP_at (m' := [(1, .int .i64 leaf), (15, .bool true)]) (by rw [c15_3]) ?_
        refine RP_seg 3 [.no, .no, .p (.bool true)] [18] (by kernel_rfl) (fun _ => by kernel_rfl) (by kernel_rfl : pick _ _ = some [(18, .bool true)]) (trivial) ?_
        refine RP_pick [18] (by kernel_rfl : pick _ _ = some [(18, .bool true)]) ?_
        refine RP_nil ?_
        refine n_then ?_
        refine W_true rfl ?_
        refine W_seq ?_
        refine W_region ?_
        refine RP_seg 1 [.p (.int .i64 1)] [4] (by kernel_rfl) (fun _ => by kernel_rfl) (by kernel_rfl : pick _ _ = some [(4, .int .i64 1)]) (trivial) ?_
        refine RP_pick [4] (by kernel_rfl : pick _ _ = some [(4, .int .i64 1)]) ?_
        refine RP_nil ?_
        refine n_then ?_
        refine W_ret ?_
        refine r_then ?_
        refine ret_of (P := Tryd.prog) (fn := Tryd.f46) (m := [(4, .int .i64 1)]) (w := w) (res1 rfl (rv_tmp rfl)) ?_
        -- return 2: .int .i64 1
        exact ⟨by (try rw [c7_1]); (try rw [c11_2]); (try rw [c15_3]); rfl, rfl⟩
      ·
        have c15_3p := of_decide_eq_false c15_3
        refine RP_at (m' := [(1, .int .i64 leaf), (15, .bool false)]) (by rw [c15_3]) ?_
        refine RP_seg 3 [.p (.int .i64 leaf), .p (.bool (decide (leaf > 32))), .p (.bool (decide (leaf > 32)))] [18] (by kernel_rfl) (fun _ => by kernel_rfl) (by kernel_rfl : pick _ _ = some [(18, .bool (decide (leaf > 32)))]) (trivial) ?_
        refine RP_pick [18] (by kernel_rfl : pick _ _ = some [(18, .bool (decide (leaf > 32)))]) ?_
        refine RP_nil ?_
        refine n_then ?_
        refine W_cond rfl (fun c18_4 => ?_) (fun c18_4 => ?_)
        ·
          have c18_4p := of_decide_eq_true c18_4
          refine W_seq ?_
          refine W_region ?_
          refine RP_seg 1 [.p (.int .i64 1)] [4] (by kernel_rfl) (fun _ => by kernel_rfl) (by kernel_rfl : pick _ _ = some [(4, .int .i64 1)]) (trivial) ?_
          refine RP_pick [4] (by kernel_rfl : pick _ _ = some [(4, .int .i64 1)]) ?_
          refine RP_nil ?_
          refine n_then ?_
          refine W_ret ?_
          refine r_then ?_
          refine ret_of (P := Tryd.prog) (fn := Tryd.f46) (m := [(4, .int .i64 1)]) (w := w) (res1 rfl (rv_tmp rfl)) ?_
          -- return 3: .int .i64 1
          exact ⟨by (try rw [c7_1]); (try rw [c11_2]); (try rw [c15_3]); (try rw [c18_4]); rfl, rfl⟩
        ·
          have c18_4p := of_decide_eq_false c18_4
          refine W_skip ?_
          refine n_then ?_
          refine W_seq ?_
          refine W_region ?_
          refine RP_seg 1 [.p (.int .i64 0)] [4] (by kernel_rfl) (fun _ => by kernel_rfl) (by kernel_rfl : pick _ _ = some [(4, .int .i64 0)]) (trivial) ?_
          refine RP_pick [4] (by kernel_rfl : pick _ _ = some [(4, .int .i64 0)]) ?_
          refine RP_nil ?_
          refine n_then ?_
          refine W_ret ?_
          refine ret_of (P := Tryd.prog) (fn := Tryd.f46) (m := [(4, .int .i64 0)]) (w := w) (res1 rfl (rv_tmp rfl)) ?_
          -- return 4: .int .i64 0
          exact ⟨by (try rw [c7_1]); (try rw [c11_2]); (try rw [c15_3]); (try rw [c18_4]); rfl, rfl⟩
theorem storeFold_ok {w : World} {gs bm bt : Nat} {p : Option Addr} {node clock j : Int} {t : T} (r : Rng) (hS : Sto w gs bm bt p node clock j t) (hs : t.size ≤ 10000) (hr : r.check = 0) :
    CR Tryd.prog 26 [.pointer (some ⟨gs, 0, none⟩), r.v] w fun v w' => v = .tuple #[(t.foldR r).v, .int .i64 0] ∧ Sto w' gs bm bt p node clock (addj j (t.foldRJ r)) t ∧ Ext [bm] w w' :=
  (storeFold_cr r hS hs).mono fun v w' h => by simpa [hr] using h
def printErr (r : Rng) : Int := cond (r.check != 0) r.check (cond r.empty 115 0)
def Prt.zero : Prt := ⟨0, ⟨⟨#[]⟩, ⟨#[]⟩, false⟩, Tal.zero, [], none, 0⟩
def printP (t : T) (r : Rng) : Prt := cond (printErr r != 0) Prt.zero ⟨1, r, t.foldR r, [], none, 0⟩

theorem matchPrint_cr {w : World} {gs bm bt : Nat} {p : Option Addr} {node clock j : Int} {t : T} (r : Rng) (hS : Sto w gs bm bt p node clock j t) (hs : t.size ≤ 10000) :
    CR Tryd.prog 14 [.pointer (some ⟨gs, 0, none⟩), r.v] w fun v w' => v = .tuple #[(printP t r).v, .int .i64 (printErr r)] ∧ (∃ j', Sto w' gs bm bt p node clock j' t) ∧ Ext [bm] w w' := by
  have st := (St.init w [bm]).add hS.tr.m (by simp)
  have hb := hS.blk
  have htb := hS.tr.t
  have hT := hS.ist
  have hgn : gs ∉ [bm] := by simpa using (hb.ne_ hS.tr.m (by decide))
  have hbn : bt ∉ [bm] := by simpa using hS.tr.ne
  have hno := NoNode.meter hS.tr.m
  have hlt := hS.tr.m.lt
  refine CR_enter Tryd.func14 rfl Tryd.ntmps14 rfl ?_
  refine W_seq ?_
  refine W_region ?_
  refine RP_e rfl (ef_box st rfl rfl) ?_
  rintro _ w1 ⟨g4, rfl, hg4, hg4', st2, hx3⟩
  replace st2 : St [bm] w w1 [(g4, 24, [.string r.lo, .string r.hi, .bool r.op]), (bm, 205, [.int .i64 j])] := st2
  refine RP_e rfl (ef_alloc st2 zero_34 rfl) ?_
  rintro _ w5 ⟨g8, rfl, hg8, hg8', st6, hx7⟩
  replace st6 : St [bm] w w5 [(g8, 34, [.int .i64 0, .string (⟨#[]⟩ : ByteArray), .string (⟨#[]⟩ : ByteArray), .bool false, .int .i64 0, .int .u64 0, .int .u64 0, .slice none 0 0]), (g4, 24, [.string r.lo, .string r.hi, .bool r.op]), (bm, 205, [.int .i64 j])] := st6
  refine RP_seg 1 [.p (.int .i64 0)] [0, 3, 4] (by kernel_rfl) (fun _ => by kernel_rfl) (by kernel_rfl : pick _ _ = some [(0, .pointer (some ⟨gs, 0, none⟩)), (3, .pointer (some ⟨g4, 0, none⟩)), (4, .pointer (some ⟨g8, 0, none⟩))]) (trivial) ?_
  refine RP_pick [0, 3, 4] (by kernel_rfl : pick _ _ = some [(0, .pointer (some ⟨gs, 0, none⟩)), (3, .pointer (some ⟨g4, 0, none⟩)), (4, .pointer (some ⟨g8, 0, none⟩))]) ?_
  refine RP_nil ?_
  refine n_then ?_
  refine W_seq ?_
  refine W_seq ?_
  refine W_region ?_
  refine RP_seg 1 [.l 24 (.pointer (some ⟨g4, 0, none⟩)) (.agg #[.string r.lo, .string r.hi, .bool r.op])] [0, 3, 4, 9] (by kernel_rfl) (fun _ => by kernel_rfl) (by kernel_rfl : pick _ _ = some [(0, .pointer (some ⟨gs, 0, none⟩)), (3, .pointer (some ⟨g4, 0, none⟩)), (4, .pointer (some ⟨g8, 0, none⟩)), (9, .agg #[.string r.lo, .string r.hi, .bool r.op])]) ⟨ldN st6 agg_24 1 rfl rfl rfl, trivial⟩ ?_
  refine RP_e rfl (ef_call (k := 29) (args := [.agg #[.string r.lo, .string r.hi, .bool r.op]]) (spanCheck_cr r _) body_29 (by kernel_rfl)) ?_
  rintro _ w9 ⟨_, rfl, rfl, hx11⟩
  have st10 := st6.call0 hx11
  refine RP_seg 1 [.p (.int .i64 r.check)] [0, 3, 4, 6] (by kernel_rfl) (fun _ => by kernel_rfl) (by kernel_rfl : pick _ _ = some [(0, .pointer (some ⟨gs, 0, none⟩)), (3, .pointer (some ⟨g4, 0, none⟩)), (4, .pointer (some ⟨g8, 0, none⟩)), (6, .int .i64 r.check)]) (trivial) ?_
  refine RP_pick [0, 3, 4, 6] (by kernel_rfl : pick _ _ = some [(0, .pointer (some ⟨gs, 0, none⟩)), (3, .pointer (some ⟨g4, 0, none⟩)), (4, .pointer (some ⟨g8, 0, none⟩)), (6, .int .i64 r.check)]) ?_
  refine RP_nil ?_
  refine n_then ?_
  refine W_seq ?_
  refine W_region ?_
  refine RP_seg 2 [.p (.int .i64 r.check), .p (.bool (r.check != 0))] [0, 3, 4, 6, 12] (by kernel_rfl) (fun _ => by kernel_rfl) (by kernel_rfl : pick _ _ = some [(0, .pointer (some ⟨gs, 0, none⟩)), (3, .pointer (some ⟨g4, 0, none⟩)), (4, .pointer (some ⟨g8, 0, none⟩)), (6, .int .i64 r.check), (12, .bool (r.check != 0))]) (trivial) ?_
  refine RP_pick [0, 3, 4, 6, 12] (by kernel_rfl : pick _ _ = some [(0, .pointer (some ⟨gs, 0, none⟩)), (3, .pointer (some ⟨g4, 0, none⟩)), (4, .pointer (some ⟨g8, 0, none⟩)), (6, .int .i64 r.check), (12, .bool (r.check != 0))]) ?_
  refine RP_nil ?_
  refine n_then ?_
  refine W_cond rfl (fun c12_12 => ?_) (fun c12_12 => ?_)
  ·
    refine W_seq ?_
    refine W_region ?_
    refine RP_seg 2 [.p (.agg #[.int .i64 0, .string (⟨#[]⟩ : ByteArray), .string (⟨#[]⟩ : ByteArray), .bool false, .int .i64 0, .int .u64 0, .int .u64 0, .slice none 0 0]), .p (.int .i64 r.check)] [4, 13, 14] (by kernel_rfl) (fun _ => by kernel_rfl) (by kernel_rfl : pick _ _ = some [(4, .pointer (some ⟨g8, 0, none⟩)), (13, .agg #[.int .i64 0, .string (⟨#[]⟩ : ByteArray), .string (⟨#[]⟩ : ByteArray), .bool false, .int .i64 0, .int .u64 0, .int .u64 0, .slice none 0 0]), (14, .int .i64 r.check)]) (trivial) ?_
    refine RP_e rfl (ef_store st10 rfl rfl rfl size_34 0 rfl rfl rfl rfl (.inr hg8)) ?_
    rintro _ w13 ⟨rfl, st14, hx15⟩
    replace st14 : St [bm] w w13 [(g8, 34, [.int .i64 0, .string (⟨#[]⟩ : ByteArray), .string (⟨#[]⟩ : ByteArray), .bool false, .int .i64 0, .int .u64 0, .int .u64 0, .slice none 0 0]), (g4, 24, [.string r.lo, .string r.hi, .bool r.op]), (bm, 205, [.int .i64 j])] := st14
    refine RP_seg 1 [.p (.int .i64 r.check)] [4, 5] (by kernel_rfl) (fun _ => by kernel_rfl) (by kernel_rfl : pick _ _ = some [(4, .pointer (some ⟨g8, 0, none⟩)), (5, .int .i64 r.check)]) (trivial) ?_
    refine RP_pick [4, 5] (by kernel_rfl : pick _ _ = some [(4, .pointer (some ⟨g8, 0, none⟩)), (5, .int .i64 r.check)]) ?_
    refine RP_nil ?_
    refine n_then ?_
    refine W_ret ?_
    refine r_then ?_
    have hpe : printErr r = r.check := by unfold printErr; (try rw [c12_12]); rfl
    refine ret_of (P := Tryd.prog) (fn := Tryd.f14) (m := [(4, .pointer (some ⟨g8, 0, none⟩)), (5, .int .i64 r.check)]) (w := w13) (res2 rfl (rv_cell rfl (by simpa [Instr.loadAt, Instr.sureAddr] using (ldN st14 agg_34 0 rfl rfl rfl))) (rv_tmp rfl)) ?_
    -- return 0: .agg #[.int .i64 0, .string (⟨#[]⟩ : ByteArray), .string (⟨#[]⟩ : ByteArray), .bool false, .int .i64 0, .int .u64 0, .int .u64 0, .slice none 0 0], .int .i64 r.check
    exact ⟨by unfold printP; rw [hpe, show (r.check != 0) = true from c12_12]; rfl, ⟨_, ⟨hb.ext st14.ext hgn, ⟨htb.ext st14.ext hbn, st14.get 2 rfl⟩, hT.to st14.ext hno⟩⟩, st14.ext⟩
  ·
    refine W_skip ?_
    refine n_then ?_
    refine W_seq ?_
    refine W_seq ?_
    refine W_region ?_
    refine RP_seg 1 [.l 24 (.pointer (some ⟨g4, 0, none⟩)) (.agg #[.string r.lo, .string r.hi, .bool r.op])] [0, 3, 4, 15] (by kernel_rfl) (fun _ => by kernel_rfl) (by kernel_rfl : pick _ _ = some [(0, .pointer (some ⟨gs, 0, none⟩)), (3, .pointer (some ⟨g4, 0, none⟩)), (4, .pointer (some ⟨g8, 0, none⟩)), (15, .agg #[.string r.lo, .string r.hi, .bool r.op])]) ⟨ldN st10 agg_24 1 rfl rfl rfl, trivial⟩ ?_
    refine RP_e rfl (ef_call (k := 45) (args := [.agg #[.string r.lo, .string r.hi, .bool r.op]]) (spanEmpty_cr r _) body_45 (by kernel_rfl)) ?_
    rintro _ w16 ⟨_, rfl, rfl, hx18⟩
    have st17 := st10.call0 hx18
    refine RP_pick [0, 3, 4, 16] (by kernel_rfl : pick _ _ = some [(0, .pointer (some ⟨gs, 0, none⟩)), (3, .pointer (some ⟨g4, 0, none⟩)), (4, .pointer (some ⟨g8, 0, none⟩)), (16, .bool r.empty)]) ?_
    refine RP_nil ?_
    refine n_then ?_
    refine W_cond rfl (fun c16_19 => ?_) (fun c16_19 => ?_)
    ·
      refine W_seq ?_
      refine W_region ?_
      refine RP_seg 1 [.p (.agg #[.int .i64 0, .string (⟨#[]⟩ : ByteArray), .string (⟨#[]⟩ : ByteArray), .bool false, .int .i64 0, .int .u64 0, .int .u64 0, .slice none 0 0])] [4, 17] (by kernel_rfl) (fun _ => by kernel_rfl) (by kernel_rfl : pick _ _ = some [(4, .pointer (some ⟨g8, 0, none⟩)), (17, .agg #[.int .i64 0, .string (⟨#[]⟩ : ByteArray), .string (⟨#[]⟩ : ByteArray), .bool false, .int .i64 0, .int .u64 0, .int .u64 0, .slice none 0 0])]) (trivial) ?_
      refine RP_e rfl (ef_store st17 rfl rfl rfl size_34 0 rfl rfl rfl rfl (.inr hg8)) ?_
      rintro _ w20 ⟨rfl, st21, hx22⟩
      replace st21 : St [bm] w w20 [(g8, 34, [.int .i64 0, .string (⟨#[]⟩ : ByteArray), .string (⟨#[]⟩ : ByteArray), .bool false, .int .i64 0, .int .u64 0, .int .u64 0, .slice none 0 0]), (g4, 24, [.string r.lo, .string r.hi, .bool r.op]), (bm, 205, [.int .i64 j])] := st21
      refine RP_seg 1 [.p (.int .i64 115)] [4, 5] (by kernel_rfl) (fun _ => by kernel_rfl) (by kernel_rfl : pick _ _ = some [(4, .pointer (some ⟨g8, 0, none⟩)), (5, .int .i64 115)]) (trivial) ?_
      refine RP_pick [4, 5] (by kernel_rfl : pick _ _ = some [(4, .pointer (some ⟨g8, 0, none⟩)), (5, .int .i64 115)]) ?_
      refine RP_nil ?_
      refine n_then ?_
      refine W_ret ?_
      refine r_then ?_
      have hpe : printErr r = 115 := by unfold printErr; (try rw [c12_12]); (try rw [c16_19]); rfl
      refine ret_of (P := Tryd.prog) (fn := Tryd.f14) (m := [(4, .pointer (some ⟨g8, 0, none⟩)), (5, .int .i64 115)]) (w := w20) (res2 rfl (rv_cell rfl (by simpa [Instr.loadAt, Instr.sureAddr] using (ldN st21 agg_34 0 rfl rfl rfl))) (rv_tmp rfl)) ?_
      -- return 1: .agg #[.int .i64 0, .string (⟨#[]⟩ : ByteArray), .string (⟨#[]⟩ : ByteArray), .bool false, .int .i64 0, .int .u64 0, .int .u64 0, .slice none 0 0], .int .i64 115
      exact ⟨by unfold printP; rw [hpe, show ((115 : Int) != 0) = true from rfl]; rfl, ⟨_, ⟨hb.ext st21.ext hgn, ⟨htb.ext st21.ext hbn, st21.get 2 rfl⟩, hT.to st21.ext hno⟩⟩, st21.ext⟩
    ·
      refine W_skip ?_
      refine n_then ?_
      refine W_seq ?_
      refine W_region ?_
      refine RP_seg 2 [.p (.pointer (some ⟨gs, 0, none⟩)), .l 24 (.pointer (some ⟨g4, 0, none⟩)) (.agg #[.string r.lo, .string r.hi, .bool r.op])] [3, 4, 19, 20] (by kernel_rfl) (fun _ => by kernel_rfl) (by kernel_rfl : pick _ _ = some [(3, .pointer (some ⟨g4, 0, none⟩)), (4, .pointer (some ⟨g8, 0, none⟩)), (19, .pointer (some ⟨gs, 0, none⟩)), (20, .agg #[.string r.lo, .string r.hi, .bool r.op])]) ⟨ldN st17 agg_24 1 rfl rfl rfl, trivial⟩ ?_
      have hr : r.check = 0 := by simpa using c12_12
      refine RP_e rfl (ef_call (k := 26) (args := [.pointer (some ⟨gs, 0, none⟩), .agg #[.string r.lo, .string r.hi, .bool r.op]]) (storeFold_ok (j := j) (p := p) r ⟨hb.ext st17.ext hgn, ⟨htb.ext st17.ext hbn, st17.get 2 rfl⟩, hT.to st17.ext hno⟩ hs hr) body_26 (by kernel_rfl)) ?_
      rintro _ w23 ⟨_, rfl, rfl, hS2, hx25⟩
      have st24 := st17.turned 2 rfl (.inl (by simp)) hS2.tr.m hx25
      have st26 : St [bm] w w23 [(g8, 34, [.int .i64 0, .string (⟨#[]⟩ : ByteArray), .string (⟨#[]⟩ : ByteArray), .bool false, .int .i64 0, .int .u64 0, .int .u64 0, .slice none 0 0]), (g4, 24, [.string r.lo, .string r.hi, .bool r.op]), (bm, 205, [.int .i64 (addj j (t.foldRJ r))])] := st24
      refine RP_seg 3 [.p (.tuple #[.agg #[.int .i64 ((t.foldR r).k), .int .u64 ((t.foldR r).a), .int .u64 ((t.foldR r).b)], .int .i64 0]), .p (.agg #[.int .i64 ((t.foldR r).k), .int .u64 ((t.foldR r).a), .int .u64 ((t.foldR r).b)]), .p (.int .i64 0)] [3, 4, 22, 23] (by kernel_rfl) (fun _ => by kernel_rfl) (by kernel_rfl : pick _ _ = some [(3, .pointer (some ⟨g4, 0, none⟩)), (4, .pointer (some ⟨g8, 0, none⟩)), (22, .agg #[.int .i64 ((t.foldR r).k), .int .u64 ((t.foldR r).a), .int .u64 ((t.foldR r).b)]), (23, .int .i64 0)]) (trivial) ?_
      refine RP_e rfl (ef_alloc st26 zero_32 rfl) ?_
      rintro _ w27 ⟨g30, rfl, hg30, hg30', st28, hx29⟩
      replace st28 : St [bm] w w27 [(g30, 32, [.int .i64 0, .int .u64 0, .int .u64 0]), (g8, 34, [.int .i64 0, .string (⟨#[]⟩ : ByteArray), .string (⟨#[]⟩ : ByteArray), .bool false, .int .i64 0, .int .u64 0, .int .u64 0, .slice none 0 0]), (g4, 24, [.string r.lo, .string r.hi, .bool r.op]), (bm, 205, [.int .i64 (addj j (t.foldRJ r))])] := st28
      refine RP_e rfl (ef_store st28 rfl rfl rfl size_32 0 rfl rfl rfl rfl (.inr hg30)) ?_
      rintro _ w31 ⟨rfl, st32, hx33⟩
      replace st32 : St [bm] w w31 [(g30, 32, [.int .i64 ((t.foldR r).k), .int .u64 ((t.foldR r).a), .int .u64 ((t.foldR r).b)]), (g8, 34, [.int .i64 0, .string (⟨#[]⟩ : ByteArray), .string (⟨#[]⟩ : ByteArray), .bool false, .int .i64 0, .int .u64 0, .int .u64 0, .slice none 0 0]), (g4, 24, [.string r.lo, .string r.hi, .bool r.op]), (bm, 205, [.int .i64 (addj j (t.foldRJ r))])] := st32
      refine RP_seg 1 [.p (.int .i64 0)] [3, 4, 7, 8] (by kernel_rfl) (fun _ => by kernel_rfl) (by kernel_rfl : pick _ _ = some [(3, .pointer (some ⟨g4, 0, none⟩)), (4, .pointer (some ⟨g8, 0, none⟩)), (7, .pointer (some ⟨g30, 0, none⟩)), (8, .int .i64 0)]) (trivial) ?_
      refine RP_pick [3, 4, 7, 8] (by kernel_rfl : pick _ _ = some [(3, .pointer (some ⟨g4, 0, none⟩)), (4, .pointer (some ⟨g8, 0, none⟩)), (7, .pointer (some ⟨g30, 0, none⟩)), (8, .int .i64 0)]) ?_
      refine RP_nil ?_
      refine n_then ?_
      refine W_seq ?_
      refine W_region ?_
      refine RP_seg 4 [.l 24 (.pointer (some ⟨g4, 0, none⟩)) (.agg #[.string r.lo, .string r.hi, .bool r.op]), .l 32 (.pointer (some ⟨g30, 0, none⟩)) (.agg #[.int .i64 ((t.foldR r).k), .int .u64 ((t.foldR r).a), .int .u64 ((t.foldR r).b)]), .p (.agg #[.int .i64 1, .string r.lo, .string r.hi, .bool r.op, .int .i64 ((t.foldR r).k), .int .u64 ((t.foldR r).a), .int .u64 ((t.foldR r).b), .slice none 0 0]), .p (.int .i64 0)] [4, 26, 27] (by kernel_rfl) (fun _ => by kernel_rfl) (by kernel_rfl : pick _ _ = some [(4, .pointer (some ⟨g8, 0, none⟩)), (26, .agg #[.int .i64 1, .string r.lo, .string r.hi, .bool r.op, .int .i64 ((t.foldR r).k), .int .u64 ((t.foldR r).a), .int .u64 ((t.foldR r).b), .slice none 0 0]), (27, .int .i64 0)]) ⟨ldN st32 agg_24 2 rfl rfl rfl, ldN st32 agg_32 0 rfl rfl rfl, trivial⟩ ?_
      refine RP_e rfl (ef_store st32 rfl rfl rfl size_34 1 rfl rfl rfl rfl (.inr hg8)) ?_
      rintro _ w34 ⟨rfl, st35, hx36⟩
      replace st35 : St [bm] w w34 [(g30, 32, [.int .i64 ((t.foldR r).k), .int .u64 ((t.foldR r).a), .int .u64 ((t.foldR r).b)]), (g8, 34, [.int .i64 1, .string r.lo, .string r.hi, .bool r.op, .int .i64 ((t.foldR r).k), .int .u64 ((t.foldR r).a), .int .u64 ((t.foldR r).b), .slice none 0 0]), (g4, 24, [.string r.lo, .string r.hi, .bool r.op]), (bm, 205, [.int .i64 (addj j (t.foldRJ r))])] := st35
      refine RP_seg 1 [.p (.int .i64 0)] [4, 5] (by kernel_rfl) (fun _ => by kernel_rfl) (by kernel_rfl : pick _ _ = some [(4, .pointer (some ⟨g8, 0, none⟩)), (5, .int .i64 0)]) (trivial) ?_
      refine RP_pick [4, 5] (by kernel_rfl : pick _ _ = some [(4, .pointer (some ⟨g8, 0, none⟩)), (5, .int .i64 0)]) ?_
      refine RP_nil ?_
      refine n_then ?_
      refine W_ret ?_
      have hpe : printErr r = 0 := by unfold printErr; (try rw [c12_12]); (try rw [c16_19]); rfl
      refine ret_of (P := Tryd.prog) (fn := Tryd.f14) (m := [(4, .pointer (some ⟨g8, 0, none⟩)), (5, .int .i64 0)]) (w := w34) (res2 rfl (rv_cell rfl (by simpa [Instr.loadAt, Instr.sureAddr] using (ldN st35 agg_34 1 rfl rfl rfl))) (rv_tmp rfl)) ?_
      -- return 2: .agg #[.int .i64 1, .string r.lo, .string r.hi, .bool r.op, .int .i64 ((t.foldR r).k), .int .u64 ((t.foldR r).a), .int .u64 ((t.foldR r).b), .slice none 0 0], .int .i64 0
      exact ⟨by unfold printP; rw [hpe, show ((0 : Int) != 0) = false from rfl]; rfl, ⟨_, ⟨hb.ext st35.ext hgn, ⟨htb.ext st35.ext hbn, st35.get 3 rfl⟩, hT.to st35.ext hno⟩⟩, st35.ext⟩
theorem compareSame_cr {w : World} {gs bm bt : Nat} {q : Option Addr} {node clock j : Int} {t : T} (branch leaf : Int) (p : Prt) (hS : Sto w gs bm bt q node clock j t) (hs : t.size ≤ 10000) (hr : p.r.check = 0) (he : Tal.eq (t.foldR p.r) p.t = true) :
    CR Tryd.prog 48 [.pointer (some ⟨gs, 0, none⟩), .int .i64 branch, .int .i64 leaf, p.v] w fun v w' => v = .tuple #[.slice none 0 0, .int .i64 0] ∧ (∃ j', Sto w' gs bm bt q node clock j' t) ∧ Ext [bm] w w' := by
  have st := (St.init w [bm]).add hS.tr.m (by simp)
  have hb := hS.blk
  have htb := hS.tr.t
  have hT := hS.ist
  have hgn : gs ∉ [bm] := by simpa using (hb.ne_ hS.tr.m (by decide))
  have hbn : bt ∉ [bm] := by simpa using hS.tr.ne
  have hno := NoNode.meter hS.tr.m
  have hlt := hS.tr.m.lt
  refine CR_enter Tryd.func48 rfl Tryd.ntmps48 rfl ?_
  refine W_seq ?_
  refine W_region ?_
  refine RP_e rfl (ef_box st rfl rfl) ?_
  rintro _ w1 ⟨g4, rfl, hg4, hg4', st2, hx3⟩
  replace st2 : St [bm] w w1 [(g4, 34, [.int .i64 p.k, .string p.r.lo, .string p.r.hi, .bool p.r.op, .int .i64 p.t.k, .int .u64 p.t.a, .int .u64 p.t.b, .slice p.eb p.es.length p.ec]), (bm, 205, [.int .i64 j])] := st2
  refine RP_seg 2 [.p (.slice none 0 0), .p (.int .i64 0)] [0, 1, 2, 7] (by kernel_rfl) (fun _ => by kernel_rfl) (by kernel_rfl : pick _ _ = some [(0, .pointer (some ⟨gs, 0, none⟩)), (1, .int .i64 branch), (2, .int .i64 leaf), (7, .pointer (some ⟨g4, 0, none⟩))]) (trivial) ?_
  refine RP_pick [0, 1, 2, 7] (by kernel_rfl : pick _ _ = some [(0, .pointer (some ⟨gs, 0, none⟩)), (1, .int .i64 branch), (2, .int .i64 leaf), (7, .pointer (some ⟨g4, 0, none⟩))]) ?_
  refine RP_nil ?_
  refine n_then ?_
  refine W_seq ?_
  refine W_region ?_
  refine RP_seg 3 [.p (.pointer (some ⟨gs, 0, none⟩)), .p (.pointer (some ⟨g4, 1, none⟩)), .l 24 (.pointer (some ⟨g4, 1, none⟩)) (.agg #[.string p.r.lo, .string p.r.hi, .bool p.r.op])] [0, 1, 2, 7, 19, 21] (by kernel_rfl) (fun _ => by kernel_rfl) (by kernel_rfl : pick _ _ = some [(0, .pointer (some ⟨gs, 0, none⟩)), (1, .int .i64 branch), (2, .int .i64 leaf), (7, .pointer (some ⟨g4, 0, none⟩)), (19, .pointer (some ⟨gs, 0, none⟩)), (21, .agg #[.string p.r.lo, .string p.r.hi, .bool p.r.op])]) ⟨ldN st2 agg_24 0 rfl rfl rfl, trivial⟩ ?_
  refine RP_e rfl (ef_call (k := 26) (args := [.pointer (some ⟨gs, 0, none⟩), .agg #[.string p.r.lo, .string p.r.hi, .bool p.r.op]]) (storeFold_ok (j := j) (p := q) p.r ⟨hb.ext st2.ext hgn, ⟨htb.ext st2.ext hbn, st2.get 1 rfl⟩, hT.to st2.ext hno⟩ hs hr) body_26 (by kernel_rfl)) ?_
  rintro _ w5 ⟨_, rfl, rfl, hS2, hx7⟩
  have st6 := st2.turned 1 rfl (.inl (by simp)) hS2.tr.m hx7
  have st8 : St [bm] w w5 [(g4, 34, [.int .i64 p.k, .string p.r.lo, .string p.r.hi, .bool p.r.op, .int .i64 p.t.k, .int .u64 p.t.a, .int .u64 p.t.b, .slice p.eb p.es.length p.ec]), (bm, 205, [.int .i64 (addj j (t.foldRJ p.r))])] := st6
  refine RP_seg 3 [.p (.tuple #[.agg #[.int .i64 ((t.foldR p.r).k), .int .u64 ((t.foldR p.r).a), .int .u64 ((t.foldR p.r).b)], .int .i64 0]), .p (.agg #[.int .i64 ((t.foldR p.r).k), .int .u64 ((t.foldR p.r).a), .int .u64 ((t.foldR p.r).b)]), .p (.int .i64 0)] [0, 1, 2, 7, 23, 24] (by kernel_rfl) (fun _ => by kernel_rfl) (by kernel_rfl : pick _ _ = some [(0, .pointer (some ⟨gs, 0, none⟩)), (1, .int .i64 branch), (2, .int .i64 leaf), (7, .pointer (some ⟨g4, 0, none⟩)), (23, .agg #[.int .i64 ((t.foldR p.r).k), .int .u64 ((t.foldR p.r).a), .int .u64 ((t.foldR p.r).b)]), (24, .int .i64 0)]) (trivial) ?_
  refine RP_e rfl (ef_alloc st8 zero_32 rfl) ?_
  rintro _ w9 ⟨g12, rfl, hg12, hg12', st10, hx11⟩
  replace st10 : St [bm] w w9 [(g12, 32, [.int .i64 0, .int .u64 0, .int .u64 0]), (g4, 34, [.int .i64 p.k, .string p.r.lo, .string p.r.hi, .bool p.r.op, .int .i64 p.t.k, .int .u64 p.t.a, .int .u64 p.t.b, .slice p.eb p.es.length p.ec]), (bm, 205, [.int .i64 (addj j (t.foldRJ p.r))])] := st10
  refine RP_e rfl (ef_store st10 rfl rfl rfl size_32 0 rfl rfl rfl rfl (.inr hg12)) ?_
  rintro _ w13 ⟨rfl, st14, hx15⟩
  replace st14 : St [bm] w w13 [(g12, 32, [.int .i64 ((t.foldR p.r).k), .int .u64 ((t.foldR p.r).a), .int .u64 ((t.foldR p.r).b)]), (g4, 34, [.int .i64 p.k, .string p.r.lo, .string p.r.hi, .bool p.r.op, .int .i64 p.t.k, .int .u64 p.t.a, .int .u64 p.t.b, .slice p.eb p.es.length p.ec]), (bm, 205, [.int .i64 (addj j (t.foldRJ p.r))])] := st14
  refine RP_seg 1 [.p (.int .i64 0)] [0, 1, 2, 7, 10, 11] (by kernel_rfl) (fun _ => by kernel_rfl) (by kernel_rfl : pick _ _ = some [(0, .pointer (some ⟨gs, 0, none⟩)), (1, .int .i64 branch), (2, .int .i64 leaf), (7, .pointer (some ⟨g4, 0, none⟩)), (10, .pointer (some ⟨g12, 0, none⟩)), (11, .int .i64 0)]) (trivial) ?_
  refine RP_pick [0, 1, 2, 7, 10, 11] (by kernel_rfl : pick _ _ = some [(0, .pointer (some ⟨gs, 0, none⟩)), (1, .int .i64 branch), (2, .int .i64 leaf), (7, .pointer (some ⟨g4, 0, none⟩)), (10, .pointer (some ⟨g12, 0, none⟩)), (11, .int .i64 0)]) ?_
  refine RP_nil ?_
  refine n_then ?_
  refine W_seq ?_
  refine W_block ?_
  refine W_seq ?_
  refine W_region ?_
  refine RP_seg 6 [.p (.int .i64 0), .p (.bool false), .p (.bool false), .l 32 (.pointer (some ⟨g12, 0, none⟩)) (.agg #[.int .i64 ((t.foldR p.r).k), .int .u64 ((t.foldR p.r).a), .int .u64 ((t.foldR p.r).b)]), .p (.pointer (some ⟨g4, 4, none⟩)), .l 32 (.pointer (some ⟨g4, 4, none⟩)) (.agg #[.int .i64 p.t.k, .int .u64 p.t.a, .int .u64 p.t.b])] [0, 1, 2, 7, 10, 11, 28, 29, 31] (by kernel_rfl) (fun _ => by kernel_rfl) (by kernel_rfl : pick _ _ = some [(0, .pointer (some ⟨gs, 0, none⟩)), (1, .int .i64 branch), (2, .int .i64 leaf), (7, .pointer (some ⟨g4, 0, none⟩)), (10, .pointer (some ⟨g12, 0, none⟩)), (11, .int .i64 0), (28, .bool false), (29, .agg #[.int .i64 ((t.foldR p.r).k), .int .u64 ((t.foldR p.r).a), .int .u64 ((t.foldR p.r).b)]), (31, .agg #[.int .i64 p.t.k, .int .u64 p.t.a, .int .u64 p.t.b])]) ⟨ldN st14 agg_32 0 rfl rfl rfl, ldN st14 agg_32 1 rfl rfl rfl, trivial⟩ ?_
  refine RP_g rfl rfl (v := .bool (Tal.eq (t.foldR p.r) p.t)) (ev_eql (eqTal (t.foldR p.r) p.t) (by decide) (by kernel_rfl) rfl rfl) ?_
  refine RP_seg 2 [.p (.bool (Tal.eq (t.foldR p.r) p.t)), .p (.bool (Tal.eq (t.foldR p.r) p.t))] [0, 1, 2, 7, 10, 11, 25] (by kernel_rfl) (fun _ => by kernel_rfl) (by kernel_rfl : pick _ _ = some [(0, .pointer (some ⟨gs, 0, none⟩)), (1, .int .i64 branch), (2, .int .i64 leaf), (7, .pointer (some ⟨g4, 0, none⟩)), (10, .pointer (some ⟨g12, 0, none⟩)), (11, .int .i64 0), (25, .bool (Tal.eq (t.foldR p.r) p.t))]) (trivial) ?_
  refine RP_pick [0, 1, 2, 7, 10, 11, 25] (by kernel_rfl : pick _ _ = some [(0, .pointer (some ⟨gs, 0, none⟩)), (1, .int .i64 branch), (2, .int .i64 leaf), (7, .pointer (some ⟨g4, 0, none⟩)), (10, .pointer (some ⟨g12, 0, none⟩)), (11, .int .i64 0), (25, .bool (Tal.eq (t.foldR p.r) p.t))]) ?_
  refine RP_nil ?_
  refine n_then ?_
  refine W_true' rfl he ?_
  refine W_seq ?_
  refine W_region ?_
  refine RP_seg 3 [.p (.int .i64 0), .p (.slice none 0 0), .p (.int .i64 0)] [8, 9] (by kernel_rfl) (fun _ => by kernel_rfl) (by kernel_rfl : pick _ _ = some [(8, .slice none 0 0), (9, .int .i64 0)]) (trivial) ?_
  refine RP_pick [8, 9] (by kernel_rfl : pick _ _ = some [(8, .slice none 0 0), (9, .int .i64 0)]) ?_
  refine RP_nil ?_
  refine n_then ?_
  refine W_ret ?_
  refine r_block <| r_then ?_
  refine ret_of (P := Tryd.prog) (fn := Tryd.f48) (m := [(8, .slice none 0 0), (9, .int .i64 0)]) (w := w13) (res2 rfl (rv_tmp rfl) (rv_tmp rfl)) ?_
  -- return 0: .slice none 0 0, .int .i64 0
  exact ⟨rfl, ⟨_, ⟨hb.ext st14.ext hgn, ⟨htb.ext st14.ext hbn, st14.get 2 rfl⟩, hT.to st14.ext hno⟩⟩, st14.ext⟩
theorem matchCompareSame_cr {w : World} {gs bm bt : Nat} {q : Option Addr} {node clock j : Int} {t : T} (branch leaf : Int) (p : Prt) (hS : Sto w gs bm bt q node clock j t) (hs : t.size ≤ 10000) (hin : InS w p.eb (entCells p.es)) (hes : p.es.length < 1000000)
    (hm : mCheck branch leaf = 0) (hk : p.k = 1) (hc : checkParts [p] = 0) (hr : p.r.check = 0) (he : Tal.eq (t.foldR p.r) p.t = true) (h0 : sp p.eb ∉ [bm]) :
    CR Tryd.prog 15 [.pointer (some ⟨gs, 0, none⟩), .int .i64 branch, .int .i64 leaf, p.v] w fun v w' => v = .tuple #[.slice none 0 0, .int .i64 0] ∧ (∃ j', Sto w' gs bm bt q node clock j' t) ∧ Ext [bm] w w' := by
  have st := (St.init w [bm]).add hS.tr.m (by simp)
  have hb := hS.blk
  have htb := hS.tr.t
  have hT := hS.ist
  have hgn : gs ∉ [bm] := by simpa using (hb.ne_ hS.tr.m (by decide))
  have hbn : bt ∉ [bm] := by simpa using hS.tr.ne
  have hno := NoNode.meter hS.tr.m
  have hlt := hS.tr.m.lt
  have hm' : (mCheck branch leaf != 0) = false := by rw [hm]; rfl
  have hc' : (checkParts [p] != 0) = false := by rw [hc]; rfl
  have hk' : (p.k != 1) = false := by rw [hk]; rfl
  refine CR_enter Tryd.func15 rfl Tryd.ntmps15 rfl ?_
  refine W_seq ?_
  refine W_region ?_
  refine RP_e rfl (ef_box st rfl rfl) ?_
  rintro _ w1 ⟨g4, rfl, hg4, hg4', st2, hx3⟩
  replace st2 : St [bm] w w1 [(g4, 34, [.int .i64 p.k, .string p.r.lo, .string p.r.hi, .bool p.r.op, .int .i64 p.t.k, .int .u64 p.t.a, .int .u64 p.t.b, .slice p.eb p.es.length p.ec]), (bm, 205, [.int .i64 j])] := st2
  refine RP_seg 2 [.p (.slice none 0 0), .p (.int .i64 0)] [0, 1, 2, 7] (by kernel_rfl) (fun _ => by kernel_rfl) (by kernel_rfl : pick _ _ = some [(0, .pointer (some ⟨gs, 0, none⟩)), (1, .int .i64 branch), (2, .int .i64 leaf), (7, .pointer (some ⟨g4, 0, none⟩))]) (trivial) ?_
  refine RP_pick [0, 1, 2, 7] (by kernel_rfl : pick _ _ = some [(0, .pointer (some ⟨gs, 0, none⟩)), (1, .int .i64 branch), (2, .int .i64 leaf), (7, .pointer (some ⟨g4, 0, none⟩))]) ?_
  refine RP_nil ?_
  refine n_then ?_
  refine W_seq ?_
  refine W_seq ?_
  refine W_region ?_
  refine RP_seg 2 [.p (.int .i64 branch), .p (.int .i64 leaf)] [0, 1, 2, 7, 12, 13] (by kernel_rfl) (fun _ => by kernel_rfl) (by kernel_rfl : pick _ _ = some [(0, .pointer (some ⟨gs, 0, none⟩)), (1, .int .i64 branch), (2, .int .i64 leaf), (7, .pointer (some ⟨g4, 0, none⟩)), (12, .int .i64 branch), (13, .int .i64 leaf)]) (trivial) ?_
  refine RP_e rfl (ef_call (k := 46) (args := [.int .i64 branch, .int .i64 leaf]) (matchCheck_cr branch leaf _) body_46 (by kernel_rfl)) ?_
  rintro _ _ ⟨_, rfl, rfl, rfl⟩
  refine RP_seg 1 [.p (.int .i64 (mCheck branch leaf))] [0, 1, 2, 7, 10] (by kernel_rfl) (fun _ => by kernel_rfl) (by kernel_rfl : pick _ _ = some [(0, .pointer (some ⟨gs, 0, none⟩)), (1, .int .i64 branch), (2, .int .i64 leaf), (7, .pointer (some ⟨g4, 0, none⟩)), (10, .int .i64 (mCheck branch leaf))]) (trivial) ?_
  refine RP_pick [0, 1, 2, 7, 10] (by kernel_rfl : pick _ _ = some [(0, .pointer (some ⟨gs, 0, none⟩)), (1, .int .i64 branch), (2, .int .i64 leaf), (7, .pointer (some ⟨g4, 0, none⟩)), (10, .int .i64 (mCheck branch leaf))]) ?_
  refine RP_nil ?_
  refine n_then ?_
  refine W_seq ?_
  refine W_region ?_
  refine RP_seg 2 [.p (.int .i64 (mCheck branch leaf)), .p (.bool ((mCheck branch leaf) != 0))] [0, 1, 2, 7, 10, 16] (by kernel_rfl) (fun _ => by kernel_rfl) (by kernel_rfl : pick _ _ = some [(0, .pointer (some ⟨gs, 0, none⟩)), (1, .int .i64 branch), (2, .int .i64 leaf), (7, .pointer (some ⟨g4, 0, none⟩)), (10, .int .i64 (mCheck branch leaf)), (16, .bool ((mCheck branch leaf) != 0))]) (trivial) ?_
  refine RP_pick [0, 1, 2, 7, 10, 16] (by kernel_rfl : pick _ _ = some [(0, .pointer (some ⟨gs, 0, none⟩)), (1, .int .i64 branch), (2, .int .i64 leaf), (7, .pointer (some ⟨g4, 0, none⟩)), (10, .int .i64 (mCheck branch leaf)), (16, .bool ((mCheck branch leaf) != 0))]) ?_
  refine RP_nil ?_
  refine n_then ?_
  refine W_false' rfl hm' ?_
  refine W_skip ?_
  refine n_then ?_
  refine W_seq ?_
  refine W_seq ?_
  refine W_region ?_
  refine RP_seg 1 [.l 34 (.pointer (some ⟨g4, 0, none⟩)) (.agg #[.int .i64 p.k, .string p.r.lo, .string p.r.hi, .bool p.r.op, .int .i64 p.t.k, .int .u64 p.t.a, .int .u64 p.t.b, .slice p.eb p.es.length p.ec])] [0, 1, 2, 7, 18] (by kernel_rfl) (fun _ => by kernel_rfl) (by kernel_rfl : pick _ _ = some [(0, .pointer (some ⟨gs, 0, none⟩)), (1, .int .i64 branch), (2, .int .i64 leaf), (7, .pointer (some ⟨g4, 0, none⟩)), (18, .agg #[.int .i64 p.k, .string p.r.lo, .string p.r.hi, .bool p.r.op, .int .i64 p.t.k, .int .u64 p.t.a, .int .u64 p.t.b, .slice p.eb p.es.length p.ec])]) ⟨ldN st2 agg_34 0 rfl rfl rfl, trivial⟩ ?_
  refine RP_e rfl (ef_new (t := 34) (cs := [.int .i64 p.k, .string p.r.lo, .string p.r.hi, .bool p.r.op, .int .i64 p.t.k, .int .u64 p.t.a, .int .u64 p.t.b, .slice p.eb p.es.length p.ec]) (fun g => .slice (some ⟨g, 0, none⟩) 1 1) st2 rfl rfl (fun _ => by kernel_rfl)) ?_
  rintro _ w8 ⟨gp, rfl, hgp, hgp', st9, hx10⟩
  refine RP_e rfl (ef_call (k := 47) (args := [.slice (some ⟨gp, 0, none⟩) 1 1]) (checkParts_cr [p] (InS.of_blk (st9.get 0 rfl)) (fun x hx => by simp only [List.mem_singleton] at hx; subst hx; exact hin.ext st9.ext h0) (fun x hx => by simp only [List.mem_singleton] at hx; subst hx; exact hes)) body_47 (by kernel_rfl)) ?_
  rintro _ w11 ⟨_, rfl, rfl, hx13⟩
  have st12 := st9.call0 hx13
  refine RP_seg 1 [.p (.int .i64 (checkParts [p]))] [0, 1, 2, 7, 11] (by kernel_rfl) (fun _ => by kernel_rfl) (by kernel_rfl : pick _ _ = some [(0, .pointer (some ⟨gs, 0, none⟩)), (1, .int .i64 branch), (2, .int .i64 leaf), (7, .pointer (some ⟨g4, 0, none⟩)), (11, .int .i64 (checkParts [p]))]) (trivial) ?_
  refine RP_pick [0, 1, 2, 7, 11] (by kernel_rfl : pick _ _ = some [(0, .pointer (some ⟨gs, 0, none⟩)), (1, .int .i64 branch), (2, .int .i64 leaf), (7, .pointer (some ⟨g4, 0, none⟩)), (11, .int .i64 (checkParts [p]))]) ?_
  refine RP_nil ?_
  refine n_then ?_
  refine W_seq ?_
  refine W_region ?_
  refine RP_seg 2 [.p (.int .i64 (checkParts [p])), .p (.bool ((checkParts [p]) != 0))] [0, 1, 2, 7, 11, 22] (by kernel_rfl) (fun _ => by kernel_rfl) (by kernel_rfl : pick _ _ = some [(0, .pointer (some ⟨gs, 0, none⟩)), (1, .int .i64 branch), (2, .int .i64 leaf), (7, .pointer (some ⟨g4, 0, none⟩)), (11, .int .i64 (checkParts [p])), (22, .bool ((checkParts [p]) != 0))]) (trivial) ?_
  refine RP_pick [0, 1, 2, 7, 11, 22] (by kernel_rfl : pick _ _ = some [(0, .pointer (some ⟨gs, 0, none⟩)), (1, .int .i64 branch), (2, .int .i64 leaf), (7, .pointer (some ⟨g4, 0, none⟩)), (11, .int .i64 (checkParts [p])), (22, .bool ((checkParts [p]) != 0))]) ?_
  refine RP_nil ?_
  refine n_then ?_
  refine W_false' rfl hc' ?_
  refine W_skip ?_
  refine n_then ?_
  refine W_seq ?_
  refine W_seq ?_
  refine W_region ?_
  refine RP_seg 3 [.p (.pointer (some ⟨g4, 0, none⟩)), .l 3 (.pointer (some ⟨g4, 0, none⟩)) (.int .i64 p.k), .p (.bool (p.k != 1))] [0, 1, 2, 7, 26] (by kernel_rfl) (fun _ => by kernel_rfl) (by kernel_rfl : pick _ _ = some [(0, .pointer (some ⟨gs, 0, none⟩)), (1, .int .i64 branch), (2, .int .i64 leaf), (7, .pointer (some ⟨g4, 0, none⟩)), (26, .bool (p.k != 1))]) ⟨ld1 st12 nagg_3 1 rfl rfl, trivial⟩ ?_
  refine RP_pick [0, 1, 2, 7, 26] (by kernel_rfl : pick _ _ = some [(0, .pointer (some ⟨gs, 0, none⟩)), (1, .int .i64 branch), (2, .int .i64 leaf), (7, .pointer (some ⟨g4, 0, none⟩)), (26, .bool (p.k != 1))]) ?_
  refine RP_nil ?_
  refine n_then ?_
  refine W_false' rfl hk' ?_
  refine W_skip ?_
  refine n_then ?_
  refine W_seq ?_
  refine W_region ?_
  refine RP_seg 4 [.p (.pointer (some ⟨gs, 0, none⟩)), .p (.int .i64 branch), .p (.int .i64 leaf), .l 34 (.pointer (some ⟨g4, 0, none⟩)) (.agg #[.int .i64 p.k, .string p.r.lo, .string p.r.hi, .bool p.r.op, .int .i64 p.t.k, .int .u64 p.t.a, .int .u64 p.t.b, .slice p.eb p.es.length p.ec])] [27, 28, 29, 30] (by kernel_rfl) (fun _ => by kernel_rfl) (by kernel_rfl : pick _ _ = some [(27, .pointer (some ⟨gs, 0, none⟩)), (28, .int .i64 branch), (29, .int .i64 leaf), (30, .agg #[.int .i64 p.k, .string p.r.lo, .string p.r.hi, .bool p.r.op, .int .i64 p.t.k, .int .u64 p.t.a, .int .u64 p.t.b, .slice p.eb p.es.length p.ec])]) ⟨ldN st12 agg_34 1 rfl rfl rfl, trivial⟩ ?_
  refine RP_e rfl (ef_call (k := 48) (args := [.pointer (some ⟨gs, 0, none⟩), .int .i64 branch, .int .i64 leaf, .agg #[.int .i64 p.k, .string p.r.lo, .string p.r.hi, .bool p.r.op, .int .i64 p.t.k, .int .u64 p.t.a, .int .u64 p.t.b, .slice p.eb p.es.length p.ec]]) (compareSame_cr (j := j) branch leaf p ⟨hb.ext st12.ext hgn, ⟨htb.ext st12.ext hbn, st12.get 2 rfl⟩, hT.to st12.ext hno⟩ hs hr he) body_48 (by kernel_rfl)) ?_
  rintro _ w14 ⟨_, rfl, rfl, ⟨j2, hS2⟩, hx16⟩
  have st15 := st12.turned 2 rfl (.inl (by simp)) hS2.tr.m hx16
  have st17 : St [bm] w w14 [(gp, 34, [.int .i64 p.k, .string p.r.lo, .string p.r.hi, .bool p.r.op, .int .i64 p.t.k, .int .u64 p.t.a, .int .u64 p.t.b, .slice p.eb p.es.length p.ec]), (g4, 34, [.int .i64 p.k, .string p.r.lo, .string p.r.hi, .bool p.r.op, .int .i64 p.t.k, .int .u64 p.t.a, .int .u64 p.t.b, .slice p.eb p.es.length p.ec]), (bm, 205, [.int .i64 j2])] := st15
  refine RP_seg 4 [.p (.slice none 0 0), .p (.int .i64 0), .p (.slice none 0 0), .p (.int .i64 0)] [8, 9] (by kernel_rfl) (fun _ => by kernel_rfl) (by kernel_rfl : pick _ _ = some [(8, .slice none 0 0), (9, .int .i64 0)]) (trivial) ?_
  refine RP_pick [8, 9] (by kernel_rfl : pick _ _ = some [(8, .slice none 0 0), (9, .int .i64 0)]) ?_
  refine RP_nil ?_
  refine n_then ?_
  refine W_ret ?_
  refine ret_of (P := Tryd.prog) (fn := Tryd.f15) (m := [(8, .slice none 0 0), (9, .int .i64 0)]) (w := w14) (res2 rfl (rv_tmp rfl) (rv_tmp rfl)) ?_
  -- return 0: .slice none 0 0, .int .i64 0
  exact ⟨rfl, ⟨_, ⟨hb.ext st17.ext hgn, ⟨htb.ext st17.ext hbn, st17.get 2 rfl⟩, hT.to st17.ext hno⟩⟩, st17.ext⟩
end Go.Proofs.YtcopemgkjbaaeaaDoor
