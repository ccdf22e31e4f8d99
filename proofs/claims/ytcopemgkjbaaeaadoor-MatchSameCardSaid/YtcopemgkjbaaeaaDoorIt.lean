/-
  item.Check, CheckVersion, tally.Of.
-/
import Derived.Test.YtcopemgkjbaaeaaDoorMx
namespace Go.Proofs.YtcopemgkjbaaeaaDoor
set_option linter.all false
open Go.RowKit

theorem tallyOf_cr {w : World} (e : Ent) (hl : Lanes w) (hk : e.key.size < 1000000000) : CR Tryd.prog 103 [e.v] w fun v w' => v = e.tal.v ∧ Ext [] w w' := by
  have st := St.init w []
  refine CR_enter Tryd.func103 rfl Tryd.ntmps103 rfl ?_
  refine W_seq ?_
  refine W_region ?_
  refine RP_e rfl (ef_box st rfl rfl) ?_
  rintro _ w1 ⟨g4, rfl, hg4, hg4', st2, hx3⟩
  replace st2 : St [] w w1 [(g4, 61, [.string e.key, .int .i64 e.c, .int .i64 e.n, .string e.val, .bool e.dead])] := st2
  refine RP_e rfl (ef_alloc st2 zero_32 rfl) ?_
  rintro _ w5 ⟨g8, rfl, hg8, hg8', st6, hx7⟩
  replace st6 : St [] w w5 [(g8, 32, [.int .i64 0, .int .u64 0, .int .u64 0]), (g4, 61, [.string e.key, .int .i64 e.c, .int .i64 e.n, .string e.val, .bool e.dead])] := st6
  refine RP_pick [1, 2] (by kernel_rfl : pick _ _ = some [(1, .pointer (some ⟨g4, 0, none⟩)), (2, .pointer (some ⟨g8, 0, none⟩))]) ?_
  refine RP_nil ?_
  refine n_then ?_
  refine W_seq ?_
  refine W_region ?_
  refine RP_seg 4 [.p (.pointer (some ⟨g4, 0, none⟩)), .l 9 (.pointer (some ⟨g4, 0, none⟩)) (.string e.key), .p (.pointer (some ⟨g4, 1, none⟩)), .l 59 (.pointer (some ⟨g4, 1, none⟩)) (.agg #[.int .i64 e.c, .int .i64 e.n])] [2, 4, 6] (by kernel_rfl) (fun _ => by kernel_rfl) (by kernel_rfl : pick _ _ = some [(2, .pointer (some ⟨g8, 0, none⟩)), (4, .string e.key), (6, .agg #[.int .i64 e.c, .int .i64 e.n])]) ⟨ld1 st6 nagg_9 1 rfl rfl, ldN st6 agg_59 1 rfl rfl rfl, trivial⟩ ?_
  refine RP_e rfl (ef_call (k := 123) (args := [.string e.key, .agg #[.int .i64 e.c, .int .i64 e.n]]) (mixOf_cr _ _ _ (hl.ext st6.ext List.not_mem_nil) hk) body_123 (by kernel_rfl)) ?_
  rintro _ w9 ⟨_, rfl, rfl, hx11⟩
  have st10 := st6.call0 hx11
  refine RP_seg 1 [.p (.agg #[.int .i64 1, .int .u64 (laneA (mixWords e.key e.c e.n)), .int .u64 (laneB (mixWords e.key e.c e.n))])] [2, 8] (by kernel_rfl) (fun _ => by kernel_rfl) (by kernel_rfl : pick _ _ = some [(2, .pointer (some ⟨g8, 0, none⟩)), (8, .agg #[.int .i64 1, .int .u64 (laneA (mixWords e.key e.c e.n)), .int .u64 (laneB (mixWords e.key e.c e.n))])]) (trivial) ?_
  refine RP_e rfl (ef_store st10 rfl rfl rfl size_32 0 rfl rfl rfl rfl (.inr hg8)) ?_
  rintro _ w12 ⟨rfl, st13, hx14⟩
  replace st13 : St [] w w12 [(g8, 32, [.int .i64 1, .int .u64 (laneA (mixWords e.key e.c e.n)), .int .u64 (laneB (mixWords e.key e.c e.n))]), (g4, 61, [.string e.key, .int .i64 e.c, .int .i64 e.n, .string e.val, .bool e.dead])] := st13
  refine RP_pick [2] (by kernel_rfl : pick _ _ = some [(2, .pointer (some ⟨g8, 0, none⟩))]) ?_
  refine RP_nil ?_
  refine n_then ?_
  refine W_ret ?_
  refine ret_of (P := Tryd.prog) (fn := Tryd.f103) (m := [(2, .pointer (some ⟨g8, 0, none⟩))]) (w := w12) (res1 rfl (rv_cell rfl (by simpa [Instr.loadAt, Instr.sureAddr] using (ldN st13 agg_32 0 rfl rfl rfl)))) ?_
  -- return 0: .agg #[.int .i64 1, .int .u64 (laneA (mixWords e.key e.c e.n)), .int .u64 (laneB (mixWords e.key e.c e.n))]
  exact ⟨rfl, st13.ext⟩
def verOk (c n : Int) : Bool := decide (1 ≤ c) && (decide (c ≤ 1099511627776) && (decide (0 ≤ n) && decide (n < 8)))
theorem checkVersion_cr (c n : Int) (w : World) : CR Tryd.prog 112 [.agg #[.int .i64 c, .int .i64 n]] w fun v w' => v = .int .i64 (cond (verOk c n) 0 30) ∧ Ext [] w w' := by
  have st := St.init w []
  unfold verOk
  refine CR_enter Tryd.func112 rfl Tryd.ntmps112 rfl ?_
  refine W_seq ?_
  refine W_region ?_
  refine RP_e rfl (ef_box st rfl rfl) ?_
  rintro _ w1 ⟨g4, rfl, hg4, hg4', st2, hx3⟩
  replace st2 : St [] w w1 [(g4, 59, [.int .i64 c, .int .i64 n])] := st2
  refine RP_seg 1 [.p (.int .i64 0)] [1] (by kernel_rfl) (fun _ => by kernel_rfl) (by kernel_rfl : pick _ _ = some [(1, .pointer (some ⟨g4, 0, none⟩))]) (trivial) ?_
  refine RP_pick [1] (by kernel_rfl : pick _ _ = some [(1, .pointer (some ⟨g4, 0, none⟩))]) ?_
  refine RP_nil ?_
  refine n_then ?_
  refine W_seq ?_
  refine W_seq ?_
  refine W_region ?_
  refine RP_seg 4 [.p (.pointer (some ⟨g4, 0, none⟩)), .l 3 (.pointer (some ⟨g4, 0, none⟩)) (.int .i64 c), .p (.bool (decide (1 ≤ c))), .p (.bool (decide (1 ≤ c)))] [1, 6] (by kernel_rfl) (fun _ => by kernel_rfl) (by kernel_rfl : pick _ _ = some [(1, .pointer (some ⟨g4, 0, none⟩)), (6, .bool (decide (1 ≤ c)))]) ⟨ld1 st2 nagg_3 0 rfl rfl, trivial⟩ ?_
  rcases Bool.eq_false_or_eq_true (decide (1 ≤ c)) with c6_5 | c6_5
  ·
    have c6_5p := of_decide_eq_true c6_5
    refine RP_at (m' := [(1, .pointer (some ⟨g4, 0, none⟩)), (6, .bool true)]) (by rw [c6_5]) ?_
    refine RP_seg 5 [.p (.pointer (some ⟨g4, 0, none⟩)), .l 3 (.pointer (some ⟨g4, 0, none⟩)) (.int .i64 c), .p (.bool (decide (c ≤ 1099511627776))), .p (.bool (decide (c ≤ 1099511627776))), .p (.bool (decide (c ≤ 1099511627776)))] [1, 11] (by kernel_rfl) (fun _ => by kernel_rfl) (by kernel_rfl : pick _ _ = some [(1, .pointer (some ⟨g4, 0, none⟩)), (11, .bool (decide (c ≤ 1099511627776)))]) ⟨ld1 st2 nagg_3 0 rfl rfl, trivial⟩ ?_
    rcases Bool.eq_false_or_eq_true (decide (c ≤ 1099511627776)) with c11_6 | c11_6
    ·
      have c11_6p := of_decide_eq_true c11_6
      refine RP_at (m' := [(1, .pointer (some ⟨g4, 0, none⟩)), (11, .bool true)]) (by rw [c11_6]) ?_
      refine RP_seg 5 [.p (.pointer (some ⟨g4, 1, none⟩)), .l 3 (.pointer (some ⟨g4, 1, none⟩)) (.int .i64 n), .p (.bool (decide (0 ≤ n))), .p (.bool (decide (0 ≤ n))), .p (.bool (decide (0 ≤ n)))] [1, 16] (by kernel_rfl) (fun _ => by kernel_rfl) (by kernel_rfl : pick _ _ = some [(1, .pointer (some ⟨g4, 0, none⟩)), (16, .bool (decide (0 ≤ n)))]) ⟨ld1 st2 nagg_3 0 rfl rfl, trivial⟩ ?_
      rcases Bool.eq_false_or_eq_true (decide (0 ≤ n)) with c16_7 | c16_7
      ·
        have c16_7p := of_decide_eq_true c16_7
        refine RP_at (m' := [(1, .pointer (some ⟨g4, 0, none⟩)), (16, .bool true)]) (by rw [c16_7]) ?_
        refine RP_seg 4 [.p (.pointer (some ⟨g4, 1, none⟩)), .l 3 (.pointer (some ⟨g4, 1, none⟩)) (.int .i64 n), .p (.bool (decide (n < 8))), .p (.bool (decide (n < 8)))] [20] (by kernel_rfl) (fun _ => by kernel_rfl) (by kernel_rfl : pick _ _ = some [(20, .bool (decide (n < 8)))]) ⟨ld1 st2 nagg_3 0 rfl rfl, trivial⟩ ?_
        refine RP_pick [20] (by kernel_rfl : pick _ _ = some [(20, .bool (decide (n < 8)))]) ?_
        refine RP_nil ?_
        refine n_then ?_
        refine W_cond rfl (fun c20_8 => ?_) (fun c20_8 => ?_)
        ·
          have c20_8p := of_decide_eq_true c20_8
          refine W_seq ?_
          refine W_region ?_
          refine RP_seg 1 [.p (.int .i64 0)] [2] (by kernel_rfl) (fun _ => by kernel_rfl) (by kernel_rfl : pick _ _ = some [(2, .int .i64 0)]) (trivial) ?_
          refine RP_pick [2] (by kernel_rfl : pick _ _ = some [(2, .int .i64 0)]) ?_
          refine RP_nil ?_
          refine n_then ?_
          refine W_ret ?_
          refine r_then ?_
          refine ret_of (P := Tryd.prog) (fn := Tryd.f112) (m := [(2, .int .i64 0)]) (w := w1) (res1 rfl (rv_tmp rfl)) ?_
          -- return 0: .int .i64 0
          exact ⟨by (try rw [c6_5]); (try rw [c11_6]); (try rw [c16_7]); (try rw [c20_8]); rfl, st2.ext⟩
        ·
          have c20_8p := of_decide_eq_false c20_8
          refine W_skip ?_
          refine n_then ?_
          refine W_seq ?_
          refine W_region ?_
          refine RP_seg 1 [.p (.int .i64 30)] [2] (by kernel_rfl) (fun _ => by kernel_rfl) (by kernel_rfl : pick _ _ = some [(2, .int .i64 30)]) (trivial) ?_
          refine RP_pick [2] (by kernel_rfl : pick _ _ = some [(2, .int .i64 30)]) ?_
          refine RP_nil ?_
          refine n_then ?_
          refine W_ret ?_
          refine ret_of (P := Tryd.prog) (fn := Tryd.f112) (m := [(2, .int .i64 30)]) (w := w1) (res1 rfl (rv_tmp rfl)) ?_
          -- return 1: .int .i64 30
          exact ⟨by (try rw [c6_5]); (try rw [c11_6]); (try rw [c16_7]); (try rw [c20_8]); rfl, st2.ext⟩
      ·
        have c16_7p := of_decide_eq_false c16_7
        refine RP_at (m' := [(1, .pointer (some ⟨g4, 0, none⟩)), (16, .bool false)]) (by rw [c16_7]) ?_
        refine RP_seg 4 [.no, .no, .no, .p (.bool false)] [20] (by kernel_rfl) (fun _ => by kernel_rfl) (by kernel_rfl : pick _ _ = some [(20, .bool false)]) (trivial) ?_
        refine RP_pick [20] (by kernel_rfl : pick _ _ = some [(20, .bool false)]) ?_
        refine RP_nil ?_
        refine n_then ?_
        refine W_false rfl ?_
        refine W_skip ?_
        refine n_then ?_
        refine W_seq ?_
        refine W_region ?_
        refine RP_seg 1 [.p (.int .i64 30)] [2] (by kernel_rfl) (fun _ => by kernel_rfl) (by kernel_rfl : pick _ _ = some [(2, .int .i64 30)]) (trivial) ?_
        refine RP_pick [2] (by kernel_rfl : pick _ _ = some [(2, .int .i64 30)]) ?_
        refine RP_nil ?_
        refine n_then ?_
        refine W_ret ?_
        refine ret_of (P := Tryd.prog) (fn := Tryd.f112) (m := [(2, .int .i64 30)]) (w := w1) (res1 rfl (rv_tmp rfl)) ?_
        -- return 2: .int .i64 30
        exact ⟨by (try rw [c6_5]); (try rw [c11_6]); (try rw [c16_7]); rfl, st2.ext⟩
    ·
      have c11_6p := of_decide_eq_false c11_6
      refine RP_at (m' := [(1, .pointer (some ⟨g4, 0, none⟩)), (11, .bool false)]) (by rw [c11_6]) ?_
      refine RP_seg 9 [.no, .no, .no, .p (.bool false), .p (.bool false), .no, .no, .no, .p (.bool false)] [20] (by kernel_rfl) (fun _ => by kernel_rfl) (by kernel_rfl : pick _ _ = some [(20, .bool false)]) (trivial) ?_
      refine RP_pick [20] (by kernel_rfl : pick _ _ = some [(20, .bool false)]) ?_
      refine RP_nil ?_
      refine n_then ?_
      refine W_false rfl ?_
      refine W_skip ?_
      refine n_then ?_
      refine W_seq ?_
      refine W_region ?_
      refine RP_seg 1 [.p (.int .i64 30)] [2] (by kernel_rfl) (fun _ => by kernel_rfl) (by kernel_rfl : pick _ _ = some [(2, .int .i64 30)]) (trivial) ?_
      refine RP_pick [2] (by kernel_rfl : pick _ _ = some [(2, .int .i64 30)]) ?_
      refine RP_nil ?_
      refine n_then ?_
      refine W_ret ?_
      refine ret_of (P := Tryd.prog) (fn := Tryd.f112) (m := [(2, .int .i64 30)]) (w := w1) (res1 rfl (rv_tmp rfl)) ?_
      -- return 3: .int .i64 30
      exact ⟨by (try rw [c6_5]); (try rw [c11_6]); rfl, st2.ext⟩
  ·
    have c6_5p := of_decide_eq_false c6_5
    refine RP_at (m' := [(1, .pointer (some ⟨g4, 0, none⟩)), (6, .bool false)]) (by rw [c6_5]) ?_
    refine RP_seg 14 [.no, .no, .no, .p (.bool false), .p (.bool false), .no, .no, .no, .p (.bool false), .p (.bool false), .no, .no, .no, .p (.bool false)] [20] (by kernel_rfl) (fun _ => by kernel_rfl) (by kernel_rfl : pick _ _ = some [(20, .bool false)]) (trivial) ?_
    refine RP_pick [20] (by kernel_rfl : pick _ _ = some [(20, .bool false)]) ?_
    refine RP_nil ?_
    refine n_then ?_
    refine W_false rfl ?_
    refine W_skip ?_
    refine n_then ?_
    refine W_seq ?_
    refine W_region ?_
    refine RP_seg 1 [.p (.int .i64 30)] [2] (by kernel_rfl) (fun _ => by kernel_rfl) (by kernel_rfl : pick _ _ = some [(2, .int .i64 30)]) (trivial) ?_
    refine RP_pick [2] (by kernel_rfl : pick _ _ = some [(2, .int .i64 30)]) ?_
    refine RP_nil ?_
    refine n_then ?_
    refine W_ret ?_
    refine ret_of (P := Tryd.prog) (fn := Tryd.f112) (m := [(2, .int .i64 30)]) (w := w1) (res1 rfl (rv_tmp rfl)) ?_
    -- return 4: .int .i64 30
    exact ⟨by (try rw [c6_5]); rfl, st2.ext⟩
def Ent.check (e : Ent) : Int := cond (decide (((e.key.size : Nat) : Int) > 16)) 20 (cond ((cond (verOk e.c e.n) (0 : Int) 30) != 0) 30 (cond (decide (((e.val.size : Nat) : Int) > 32)) 31 (cond (e.dead && !(e.val.toList == (⟨#[]⟩ : ByteArray).toList)) 32 0)))
theorem itemCheck_cr (e : Ent) (w : World) : CR Tryd.prog 63 [e.v] w fun v w' => v = .int .i64 e.check ∧ Ext [] w w' := by
  have st := St.init w []
  unfold Ent.check
  refine CR_enter Tryd.func63 rfl Tryd.ntmps63 rfl ?_
  refine W_seq ?_
  refine W_region ?_
  refine RP_e rfl (ef_box st rfl rfl) ?_
  rintro _ w1 ⟨g4, rfl, hg4, hg4', st2, hx3⟩
  replace st2 : St [] w w1 [(g4, 61, [.string e.key, .int .i64 e.c, .int .i64 e.n, .string e.val, .bool e.dead])] := st2
  refine RP_seg 1 [.p (.int .i64 0)] [1] (by kernel_rfl) (fun _ => by kernel_rfl) (by kernel_rfl : pick _ _ = some [(1, .pointer (some ⟨g4, 0, none⟩))]) (trivial) ?_
  refine RP_pick [1] (by kernel_rfl : pick _ _ = some [(1, .pointer (some ⟨g4, 0, none⟩))]) ?_
  refine RP_nil ?_
  refine n_then ?_
  refine W_seq ?_
  refine W_block ?_
  refine W_seq ?_
  refine W_region ?_
  refine RP_seg 5 [.p (.pointer (some ⟨g4, 0, none⟩)), .l 9 (.pointer (some ⟨g4, 0, none⟩)) (.string e.key), .p (.int .i64 (((e.key).size : Nat) : Int)), .p (.bool (decide ((((e.key).size : Nat) : Int) > 16))), .p (.bool (decide ((((e.key).size : Nat) : Int) > 16)))] [1, 3] (by kernel_rfl) (fun _ => by kernel_rfl) (by kernel_rfl : pick _ _ = some [(1, .pointer (some ⟨g4, 0, none⟩)), (3, .bool (decide ((((e.key).size : Nat) : Int) > 16)))]) ⟨ld1 st2 nagg_9 0 rfl rfl, trivial⟩ ?_
  refine RP_pick [1, 3] (by kernel_rfl : pick _ _ = some [(1, .pointer (some ⟨g4, 0, none⟩)), (3, .bool (decide ((((e.key).size : Nat) : Int) > 16)))]) ?_
  refine RP_nil ?_
  refine n_then ?_
  refine W_cond rfl (fun c3_5 => ?_) (fun c3_5 => ?_)
  ·
    have c3_5p := of_decide_eq_true c3_5
    refine W_seq ?_
    refine W_region ?_
    refine RP_seg 1 [.p (.int .i64 20)] [2] (by kernel_rfl) (fun _ => by kernel_rfl) (by kernel_rfl : pick _ _ = some [(2, .int .i64 20)]) (trivial) ?_
    refine RP_pick [2] (by kernel_rfl : pick _ _ = some [(2, .int .i64 20)]) ?_
    refine RP_nil ?_
    refine n_then ?_
    refine W_ret ?_
    refine r_block <| r_then ?_
    refine ret_of (P := Tryd.prog) (fn := Tryd.f63) (m := [(2, .int .i64 20)]) (w := w1) (res1 rfl (rv_tmp rfl)) ?_
    -- return 0: .int .i64 20
    exact ⟨by (try rw [c3_5]); rfl, st2.ext⟩
  ·
    have c3_5p := of_decide_eq_false c3_5
    refine W_seq ?_
    refine W_region ?_
    refine RP_seg 2 [.p (.pointer (some ⟨g4, 1, none⟩)), .l 59 (.pointer (some ⟨g4, 1, none⟩)) (.agg #[.int .i64 e.c, .int .i64 e.n])] [1, 10] (by kernel_rfl) (fun _ => by kernel_rfl) (by kernel_rfl : pick _ _ = some [(1, .pointer (some ⟨g4, 0, none⟩)), (10, .agg #[.int .i64 e.c, .int .i64 e.n])]) ⟨ldN st2 agg_59 0 rfl rfl rfl, trivial⟩ ?_
    refine RP_e rfl (ef_call (k := 112) (args := [.agg #[.int .i64 e.c, .int .i64 e.n]]) (checkVersion_cr _ _ _) body_112 (by kernel_rfl)) ?_
    rintro _ w6 ⟨_, rfl, rfl, hx8⟩
    have st7 := st2.call0 hx8
    refine RP_seg 2 [.p (.bool ((cond (verOk e.c e.n) (0 : Int) 30) != 0)), .p (.bool ((cond (verOk e.c e.n) (0 : Int) 30) != 0))] [1, 8] (by kernel_rfl) (fun _ => by kernel_rfl) (by kernel_rfl : pick _ _ = some [(1, .pointer (some ⟨g4, 0, none⟩)), (8, .bool ((cond (verOk e.c e.n) (0 : Int) 30) != 0))]) (trivial) ?_
    refine RP_pick [1, 8] (by kernel_rfl : pick _ _ = some [(1, .pointer (some ⟨g4, 0, none⟩)), (8, .bool ((cond (verOk e.c e.n) (0 : Int) 30) != 0))]) ?_
    refine RP_nil ?_
    refine n_then ?_
    refine W_cond rfl (fun c8_9 => ?_) (fun c8_9 => ?_)
    ·
      refine W_seq ?_
      refine W_region ?_
      refine RP_seg 1 [.p (.int .i64 30)] [2] (by kernel_rfl) (fun _ => by kernel_rfl) (by kernel_rfl : pick _ _ = some [(2, .int .i64 30)]) (trivial) ?_
      refine RP_pick [2] (by kernel_rfl : pick _ _ = some [(2, .int .i64 30)]) ?_
      refine RP_nil ?_
      refine n_then ?_
      refine W_ret ?_
      refine r_block <| r_then ?_
      refine ret_of (P := Tryd.prog) (fn := Tryd.f63) (m := [(2, .int .i64 30)]) (w := w6) (res1 rfl (rv_tmp rfl)) ?_
      -- return 1: .int .i64 30
      exact ⟨by (try rw [c3_5]); (try rw [c8_9]); rfl, st7.ext⟩
    ·
      refine W_seq ?_
      refine W_region ?_
      refine RP_seg 5 [.p (.pointer (some ⟨g4, 3, none⟩)), .l 9 (.pointer (some ⟨g4, 3, none⟩)) (.string e.val), .p (.int .i64 (((e.val).size : Nat) : Int)), .p (.bool (decide ((((e.val).size : Nat) : Int) > 32))), .p (.bool (decide ((((e.val).size : Nat) : Int) > 32)))] [1, 13] (by kernel_rfl) (fun _ => by kernel_rfl) (by kernel_rfl : pick _ _ = some [(1, .pointer (some ⟨g4, 0, none⟩)), (13, .bool (decide ((((e.val).size : Nat) : Int) > 32)))]) ⟨ld1 st7 nagg_9 0 rfl rfl, trivial⟩ ?_
      refine RP_pick [1, 13] (by kernel_rfl : pick _ _ = some [(1, .pointer (some ⟨g4, 0, none⟩)), (13, .bool (decide ((((e.val).size : Nat) : Int) > 32)))]) ?_
      refine RP_nil ?_
      refine n_then ?_
      refine W_cond rfl (fun c13_10 => ?_) (fun c13_10 => ?_)
      ·
        have c13_10p := of_decide_eq_true c13_10
        refine W_seq ?_
        refine W_region ?_
        refine RP_seg 1 [.p (.int .i64 31)] [2] (by kernel_rfl) (fun _ => by kernel_rfl) (by kernel_rfl : pick _ _ = some [(2, .int .i64 31)]) (trivial) ?_
        refine RP_pick [2] (by kernel_rfl : pick _ _ = some [(2, .int .i64 31)]) ?_
        refine RP_nil ?_
        refine n_then ?_
        refine W_ret ?_
        refine r_block <| r_then ?_
        refine ret_of (P := Tryd.prog) (fn := Tryd.f63) (m := [(2, .int .i64 31)]) (w := w6) (res1 rfl (rv_tmp rfl)) ?_
        -- return 2: .int .i64 31
        exact ⟨by (try rw [c3_5]); (try rw [c8_9]); (try rw [c13_10]); rfl, st7.ext⟩
      ·
        have c13_10p := of_decide_eq_false c13_10
        refine W_seq ?_
        refine W_region ?_
        refine RP_seg 3 [.p (.pointer (some ⟨g4, 4, none⟩)), .l 4 (.pointer (some ⟨g4, 4, none⟩)) (.bool e.dead), .p (.bool e.dead)] [1, 21] (by kernel_rfl) (fun _ => by kernel_rfl) (by kernel_rfl : pick _ _ = some [(1, .pointer (some ⟨g4, 0, none⟩)), (21, .bool e.dead)]) ⟨ld1 st7 nagg_4 0 rfl rfl, trivial⟩ ?_
        rcases Bool.eq_false_or_eq_true (e.dead) with c21_11 | c21_11
        ·
          refine RP_at (m' := [(1, .pointer (some ⟨g4, 0, none⟩)), (21, .bool true)]) (by rw [c21_11]) ?_
          refine RP_seg 5 [.p (.pointer (some ⟨g4, 3, none⟩)), .l 9 (.pointer (some ⟨g4, 3, none⟩)) (.string e.val), .p (.bool (!((e.val).toList == ((⟨#[]⟩ : ByteArray)).toList))), .p (.bool (!((e.val).toList == ((⟨#[]⟩ : ByteArray)).toList))), .p (.bool (!((e.val).toList == ((⟨#[]⟩ : ByteArray)).toList)))] [18] (by kernel_rfl) (fun _ => by kernel_rfl) (by kernel_rfl : pick _ _ = some [(18, .bool (!((e.val).toList == ((⟨#[]⟩ : ByteArray)).toList)))]) ⟨ld1 st7 nagg_9 0 rfl rfl, trivial⟩ ?_
          refine RP_pick [18] (by kernel_rfl : pick _ _ = some [(18, .bool (!((e.val).toList == ((⟨#[]⟩ : ByteArray)).toList)))]) ?_
          refine RP_nil ?_
          refine n_then ?_
          refine W_cond rfl (fun c18_12 => ?_) (fun c18_12 => ?_)
          ·
            refine W_seq ?_
            refine W_region ?_
            refine RP_seg 1 [.p (.int .i64 32)] [2] (by kernel_rfl) (fun _ => by kernel_rfl) (by kernel_rfl : pick _ _ = some [(2, .int .i64 32)]) (trivial) ?_
            refine RP_pick [2] (by kernel_rfl : pick _ _ = some [(2, .int .i64 32)]) ?_
            refine RP_nil ?_
            refine n_then ?_
            refine W_ret ?_
            refine r_block <| r_then ?_
            refine ret_of (P := Tryd.prog) (fn := Tryd.f63) (m := [(2, .int .i64 32)]) (w := w6) (res1 rfl (rv_tmp rfl)) ?_
            -- return 3: .int .i64 32
            exact ⟨by (try rw [c3_5]); (try rw [c8_9]); (try rw [c13_10]); (try rw [c21_11]); (try rw [c18_12]); rfl, st7.ext⟩
          ·
            refine W_skip ?_
            refine n_block ?_
            refine n_then ?_
            refine W_seq ?_
            refine W_region ?_
            refine RP_seg 1 [.p (.int .i64 0)] [2] (by kernel_rfl) (fun _ => by kernel_rfl) (by kernel_rfl : pick _ _ = some [(2, .int .i64 0)]) (trivial) ?_
            refine RP_pick [2] (by kernel_rfl : pick _ _ = some [(2, .int .i64 0)]) ?_
            refine RP_nil ?_
            refine n_then ?_
            refine W_ret ?_
            refine ret_of (P := Tryd.prog) (fn := Tryd.f63) (m := [(2, .int .i64 0)]) (w := w6) (res1 rfl (rv_tmp rfl)) ?_
            -- return 4: .int .i64 0
            exact ⟨by (try rw [c3_5]); (try rw [c8_9]); (try rw [c13_10]); (try rw [c21_11]); (try rw [c18_12]); rfl, st7.ext⟩
        ·
          refine RP_at (m' := [(1, .pointer (some ⟨g4, 0, none⟩)), (21, .bool false)]) (by rw [c21_11]) ?_
          refine RP_seg 5 [.no, .no, .no, .p (.bool false), .p (.bool false)] [18] (by kernel_rfl) (fun _ => by kernel_rfl) (by kernel_rfl : pick _ _ = some [(18, .bool false)]) (trivial) ?_
          refine RP_pick [18] (by kernel_rfl : pick _ _ = some [(18, .bool false)]) ?_
          refine RP_nil ?_
          refine n_then ?_
          refine W_false rfl ?_
          refine W_skip ?_
          refine n_block ?_
          refine n_then ?_
          refine W_seq ?_
          refine W_region ?_
          refine RP_seg 1 [.p (.int .i64 0)] [2] (by kernel_rfl) (fun _ => by kernel_rfl) (by kernel_rfl : pick _ _ = some [(2, .int .i64 0)]) (trivial) ?_
          refine RP_pick [2] (by kernel_rfl : pick _ _ = some [(2, .int .i64 0)]) ?_
          refine RP_nil ?_
          refine n_then ?_
          refine W_ret ?_
          refine ret_of (P := Tryd.prog) (fn := Tryd.f63) (m := [(2, .int .i64 0)]) (w := w6) (res1 rfl (rv_tmp rfl)) ?_
          -- return 5: .int .i64 0
          exact ⟨by (try rw [c3_5]); (try rw [c8_9]); (try rw [c13_10]); (try rw [c21_11]); rfl, st7.ext⟩
end Go.Proofs.YtcopemgkjbaaeaaDoor
