/-
  The document's answers: ref03.Check, ref02.Check, Holds, ref08.Load.
-/
import Derived.Test.YtcopemgkjbaaeaaDoorMa
namespace Go.Proofs.YtcopemgkjbaaeaaDoor
set_option linter.all false
open Go.RowKit

theorem blt_total : ∀ a b : List UInt8, (Op.bytesLess a b || a == b) = !(Op.bytesLess b a)
  | [], [] => by simp [Op.bytesLess]
  | [], b :: y => by simp [Op.bytesLess]
  | a :: x, [] => by simp [Op.bytesLess]
  | a :: x, b :: y => by
    have ih := blt_total x y
    simp only [Op.bytesLess, List.cons_beq_cons]
    rcases Nat.lt_trichotomy a.toNat b.toNat with h | h | h
    · have h1 : a < b := UInt8.lt_iff_toNat_lt.2 h
      have h2 : ¬ b < a := fun h3 => by have := UInt8.lt_iff_toNat_lt.1 h3; omega
      have h3 : (b == a) = false := by simp; intro e; subst e; omega
      simp [h1, h2, h3]
    · have e : a = b := UInt8.toNat_inj.1 h
      subst e
      simpa using ih
    · have h1 : b < a := UInt8.lt_iff_toNat_lt.2 h
      have h2 : ¬ a < b := fun h3 => by have := UInt8.lt_iff_toNat_lt.1 h3; omega
      have h3 : (a == b) = false := by simp; intro e; subst e; omega
      simp [h1, h2, h3]

theorem ref03ver_cr (c n : Int) (w : World) : CR Tryd.prog 132 [.agg #[.int .i64 c, .int .i64 n]] w fun v w' => v = .int .i64 (cond (verOk c n) 0 30) ∧ Ext [] w w' := by
  have st := St.init w []
  refine CR_enter Tryd.func132 rfl Tryd.ntmps132 rfl ?_
  refine W_seq ?_
  refine W_region ?_
  refine RP_e rfl (ef_box st rfl rfl) ?_
  rintro _ w1 ⟨g4, rfl, hg4, hg4', st2, hx3⟩
  replace st2 : St [] w w1 [(g4, 59, [.int .i64 c, .int .i64 n])] := st2
  refine RP_seg 1 [.p (.int .i64 0)] [1] (by kernel_rfl) (fun _ => by kernel_rfl) (by kernel_rfl : pick _ _ = some [(1, .pointer (some ⟨g4, 0, none⟩))]) (trivial) ?_
  refine RP_pick [1] (by kernel_rfl : pick _ _ = some [(1, .pointer (some ⟨g4, 0, none⟩))]) ?_
  refine RP_nil ?_
  refine n_then ?_
  refine W_seq ?_
  refine W_seq ?_
  refine W_region ?_
  refine RP_seg 4 [.p (.pointer (some ⟨g4, 0, none⟩)), .l 3 (.pointer (some ⟨g4, 0, none⟩)) (.int .i64 c), .p (.bool (decide (c < 1))), .p (.bool (decide (c < 1)))] [1, 6] (by kernel_rfl) (fun _ => by kernel_rfl) (by kernel_rfl : pick _ _ = some [(1, .pointer (some ⟨g4, 0, none⟩)), (6, .bool (decide (c < 1)))]) ⟨ld1 st2 nagg_3 0 rfl rfl, trivial⟩ ?_
  rcases Bool.eq_false_or_eq_true (decide (c < 1)) with c6_5 | c6_5
  ·
    have c6_5p := of_decide_eq_true c6_5
    refine RP_at (m' := [(1, .pointer (some ⟨g4, 0, none⟩)), (6, .bool true)]) (by rw [c6_5]) ?_
    refine RP_seg 14 [.no, .no, .no, .p (.bool true), .p (.bool true), .no, .no, .no, .p (.bool true), .p (.bool true), .no, .no, .no, .p (.bool true)] [20] (by kernel_rfl) (fun _ => by kernel_rfl) (by kernel_rfl : pick _ _ = some [(20, .bool true)]) (trivial) ?_
    refine RP_pick [20] (by kernel_rfl : pick _ _ = some [(20, .bool true)]) ?_
    refine RP_nil ?_
    refine n_then ?_
    refine W_true rfl ?_
    refine W_seq ?_
    refine W_region ?_
    refine RP_seg 1 [.p (.int .i64 30)] [2] (by kernel_rfl) (fun _ => by kernel_rfl) (by kernel_rfl : pick _ _ = some [(2, .int .i64 30)]) (trivial) ?_
    refine RP_pick [2] (by kernel_rfl : pick _ _ = some [(2, .int .i64 30)]) ?_
    refine RP_nil ?_
    refine n_then ?_
    refine W_ret ?_
    refine r_then ?_
    refine ret_of (P := Tryd.prog) (fn := Tryd.f132) (m := [(2, .int .i64 30)]) (w := w1) (res1 rfl (rv_tmp rfl)) ?_
    -- return 0: .int .i64 30
    exact ⟨by rw [show verOk c n = false from by unfold verOk; simp; omega]; rfl, st2.ext⟩
  ·
    have c6_5p := of_decide_eq_false c6_5
    refine RP_at (m' := [(1, .pointer (some ⟨g4, 0, none⟩)), (6, .bool false)]) (by rw [c6_5]) ?_
    refine RP_seg 5 [.p (.pointer (some ⟨g4, 0, none⟩)), .l 3 (.pointer (some ⟨g4, 0, none⟩)) (.int .i64 c), .p (.bool (decide (c > 1099511627776))), .p (.bool (decide (c > 1099511627776))), .p (.bool (decide (c > 1099511627776)))] [1, 11] (by kernel_rfl) (fun _ => by kernel_rfl) (by kernel_rfl : pick _ _ = some [(1, .pointer (some ⟨g4, 0, none⟩)), (11, .bool (decide (c > 1099511627776)))]) ⟨ld1 st2 nagg_3 0 rfl rfl, trivial⟩ ?_
    rcases Bool.eq_false_or_eq_true (decide (c > 1099511627776)) with c11_6 | c11_6
    ·
      have c11_6p := of_decide_eq_true c11_6
      refine RP_at (m' := [(1, .pointer (some ⟨g4, 0, none⟩)), (11, .bool true)]) (by rw [c11_6]) ?_
      refine RP_seg 9 [.no, .no, .no, .p (.bool true), .p (.bool true), .no, .no, .no, .p (.bool true)] [20] (by kernel_rfl) (fun _ => by kernel_rfl) (by kernel_rfl : pick _ _ = some [(20, .bool true)]) (trivial) ?_
      refine RP_pick [20] (by kernel_rfl : pick _ _ = some [(20, .bool true)]) ?_
      refine RP_nil ?_
      refine n_then ?_
      refine W_true rfl ?_
      refine W_seq ?_
      refine W_region ?_
      refine RP_seg 1 [.p (.int .i64 30)] [2] (by kernel_rfl) (fun _ => by kernel_rfl) (by kernel_rfl : pick _ _ = some [(2, .int .i64 30)]) (trivial) ?_
      refine RP_pick [2] (by kernel_rfl : pick _ _ = some [(2, .int .i64 30)]) ?_
      refine RP_nil ?_
      refine n_then ?_
      refine W_ret ?_
      refine r_then ?_
      refine ret_of (P := Tryd.prog) (fn := Tryd.f132) (m := [(2, .int .i64 30)]) (w := w1) (res1 rfl (rv_tmp rfl)) ?_
      -- return 1: .int .i64 30
      exact ⟨by rw [show verOk c n = false from by unfold verOk; simp; omega]; rfl, st2.ext⟩
    ·
      have c11_6p := of_decide_eq_false c11_6
      refine RP_at (m' := [(1, .pointer (some ⟨g4, 0, none⟩)), (11, .bool false)]) (by rw [c11_6]) ?_
      refine RP_seg 5 [.p (.pointer (some ⟨g4, 1, none⟩)), .l 3 (.pointer (some ⟨g4, 1, none⟩)) (.int .i64 n), .p (.bool (decide (n < 0))), .p (.bool (decide (n < 0))), .p (.bool (decide (n < 0)))] [1, 16] (by kernel_rfl) (fun _ => by kernel_rfl) (by kernel_rfl : pick _ _ = some [(1, .pointer (some ⟨g4, 0, none⟩)), (16, .bool (decide (n < 0)))]) ⟨ld1 st2 nagg_3 0 rfl rfl, trivial⟩ ?_
      rcases Bool.eq_false_or_eq_true (decide (n < 0)) with c16_7 | c16_7
      ·
        have c16_7p := of_decide_eq_true c16_7
        refine RP_at (m' := [(1, .pointer (some ⟨g4, 0, none⟩)), (16, .bool true)]) (by rw [c16_7]) ?_
        refine RP_seg 4 [.no, .no, .no, .p (.bool true)] [20] (by kernel_rfl) (fun _ => by kernel_rfl) (by kernel_rfl : pick _ _ = some [(20, .bool true)]) (trivial) ?_
        refine RP_pick [20] (by kernel_rfl : pick _ _ = some [(20, .bool true)]) ?_
        refine RP_nil ?_
        refine n_then ?_
        refine W_true rfl ?_
        refine W_seq ?_
        refine W_region ?_
        refine RP_seg 1 [.p (.int .i64 30)] [2] (by kernel_rfl) (fun _ => by kernel_rfl) (by kernel_rfl : pick _ _ = some [(2, .int .i64 30)]) (trivial) ?_
        refine RP_pick [2] (by kernel_rfl : pick _ _ = some [(2, .int .i64 30)]) ?_
        refine RP_nil ?_
        refine n_then ?_
        refine W_ret ?_
        refine r_then ?_
        refine ret_of (P := Tryd.prog) (fn := Tryd.f132) (m := [(2, .int .i64 30)]) (w := w1) (res1 rfl (rv_tmp rfl)) ?_
        -- return 2: .int .i64 30
        exact ⟨by rw [show verOk c n = false from by unfold verOk; simp; omega]; rfl, st2.ext⟩
      ·
        have c16_7p := of_decide_eq_false c16_7
        refine RP_at (m' := [(1, .pointer (some ⟨g4, 0, none⟩)), (16, .bool false)]) (by rw [c16_7]) ?_
        refine RP_seg 4 [.p (.pointer (some ⟨g4, 1, none⟩)), .l 3 (.pointer (some ⟨g4, 1, none⟩)) (.int .i64 n), .p (.bool (decide (n ≥ 8))), .p (.bool (decide (n ≥ 8)))] [20] (by kernel_rfl) (fun _ => by kernel_rfl) (by kernel_rfl : pick _ _ = some [(20, .bool (decide (n ≥ 8)))]) ⟨ld1 st2 nagg_3 0 rfl rfl, trivial⟩ ?_
        refine RP_pick [20] (by kernel_rfl : pick _ _ = some [(20, .bool (decide (n ≥ 8)))]) ?_
        refine RP_nil ?_
        refine n_then ?_
        refine W_cond rfl (fun c20_8 => ?_) (fun c20_8 => ?_)
        ·
          have c20_8p := of_decide_eq_true c20_8
          refine W_seq ?_
          refine W_region ?_
          refine RP_seg 1 [.p (.int .i64 30)] [2] (by kernel_rfl) (fun _ => by kernel_rfl) (by kernel_rfl : pick _ _ = some [(2, .int .i64 30)]) (trivial) ?_
          refine RP_pick [2] (by kernel_rfl : pick _ _ = some [(2, .int .i64 30)]) ?_
          refine RP_nil ?_
          refine n_then ?_
          refine W_ret ?_
          refine r_then ?_
          refine ret_of (P := Tryd.prog) (fn := Tryd.f132) (m := [(2, .int .i64 30)]) (w := w1) (res1 rfl (rv_tmp rfl)) ?_
          -- return 3: .int .i64 30
          exact ⟨by rw [show verOk c n = false from by unfold verOk; simp; omega]; rfl, st2.ext⟩
        ·
          have c20_8p := of_decide_eq_false c20_8
          refine W_skip ?_
          refine n_then ?_
          refine W_seq ?_
          refine W_region ?_
          refine RP_seg 1 [.p (.int .i64 0)] [2] (by kernel_rfl) (fun _ => by kernel_rfl) (by kernel_rfl : pick _ _ = some [(2, .int .i64 0)]) (trivial) ?_
          refine RP_pick [2] (by kernel_rfl : pick _ _ = some [(2, .int .i64 0)]) ?_
          refine RP_nil ?_
          refine n_then ?_
          refine W_ret ?_
          refine ret_of (P := Tryd.prog) (fn := Tryd.f132) (m := [(2, .int .i64 0)]) (w := w1) (res1 rfl (rv_tmp rfl)) ?_
          -- return 4: .int .i64 0
          exact ⟨by rw [show verOk c n = true from by unfold verOk; simp; omega]; rfl, st2.ext⟩
theorem ref03_cr (e : Ent) (w : World) : CR Tryd.prog 98 [e.v] w fun v w' => v = .int .i64 e.check ∧ Ext [] w w' := by
  have st := St.init w []
  unfold Ent.check
  refine CR_enter Tryd.func98 rfl Tryd.ntmps98 rfl ?_
  refine W_seq ?_
  refine W_region ?_
  refine RP_e rfl (ef_box st rfl rfl) ?_
  rintro _ w1 ⟨g4, rfl, hg4, hg4', st2, hx3⟩
  replace st2 : St [] w w1 [(g4, 61, [.string e.key, .int .i64 e.c, .int .i64 e.n, .string e.val, .bool e.dead])] := st2
  refine RP_seg 1 [.p (.int .i64 0)] [1] (by kernel_rfl) (fun _ => by kernel_rfl) (by kernel_rfl : pick _ _ = some [(1, .pointer (some ⟨g4, 0, none⟩))]) (trivial) ?_
  refine RP_pick [1] (by kernel_rfl : pick _ _ = some [(1, .pointer (some ⟨g4, 0, none⟩))]) ?_
  refine RP_nil ?_
  refine n_then ?_
  refine W_seq ?_
  refine W_seq ?_
  refine W_region ?_
  refine RP_seg 4 [.p (.pointer (some ⟨g4, 0, none⟩)), .l 9 (.pointer (some ⟨g4, 0, none⟩)) (.string e.key), .p (.int .i64 (((e.key).size : Nat) : Int)), .p (.bool (decide ((((e.key).size : Nat) : Int) > 16)))] [1, 6] (by kernel_rfl) (fun _ => by kernel_rfl) (by kernel_rfl : pick _ _ = some [(1, .pointer (some ⟨g4, 0, none⟩)), (6, .bool (decide ((((e.key).size : Nat) : Int) > 16)))]) ⟨ld1 st2 nagg_9 0 rfl rfl, trivial⟩ ?_
  refine RP_pick [1, 6] (by kernel_rfl : pick _ _ = some [(1, .pointer (some ⟨g4, 0, none⟩)), (6, .bool (decide ((((e.key).size : Nat) : Int) > 16)))]) ?_
  refine RP_nil ?_
  refine n_then ?_
  refine W_cond rfl (fun c6_5 => ?_) (fun c6_5 => ?_)
  ·
    have c6_5p := of_decide_eq_true c6_5
    refine W_seq ?_
    refine W_region ?_
    refine RP_seg 1 [.p (.int .i64 20)] [2] (by kernel_rfl) (fun _ => by kernel_rfl) (by kernel_rfl : pick _ _ = some [(2, .int .i64 20)]) (trivial) ?_
    refine RP_pick [2] (by kernel_rfl : pick _ _ = some [(2, .int .i64 20)]) ?_
    refine RP_nil ?_
    refine n_then ?_
    refine W_ret ?_
    refine r_then ?_
    refine ret_of (P := Tryd.prog) (fn := Tryd.f98) (m := [(2, .int .i64 20)]) (w := w1) (res1 rfl (rv_tmp rfl)) ?_
    -- return 0: .int .i64 20
    exact ⟨by (try rw [c6_5]); rfl, st2.ext⟩
  ·
    have c6_5p := of_decide_eq_false c6_5
    refine W_skip ?_
    refine n_then ?_
    refine W_seq ?_
    refine W_seq ?_
    refine W_region ?_
    refine RP_seg 2 [.p (.pointer (some ⟨g4, 1, none⟩)), .l 59 (.pointer (some ⟨g4, 1, none⟩)) (.agg #[.int .i64 e.c, .int .i64 e.n])] [1, 8] (by kernel_rfl) (fun _ => by kernel_rfl) (by kernel_rfl : pick _ _ = some [(1, .pointer (some ⟨g4, 0, none⟩)), (8, .agg #[.int .i64 e.c, .int .i64 e.n])]) ⟨ldN st2 agg_59 0 rfl rfl rfl, trivial⟩ ?_
    refine RP_e rfl (ef_call (k := 132) (args := [.agg #[.int .i64 e.c, .int .i64 e.n]]) (ref03ver_cr _ _ _) body_132 (by kernel_rfl)) ?_
    rintro _ w6 ⟨_, rfl, rfl, hx8⟩
    have st7 := st2.call0 hx8
    refine RP_seg 1 [.p (.bool ((cond (verOk e.c e.n) (0 : Int) 30) != 0))] [1, 10] (by kernel_rfl) (fun _ => by kernel_rfl) (by kernel_rfl : pick _ _ = some [(1, .pointer (some ⟨g4, 0, none⟩)), (10, .bool ((cond (verOk e.c e.n) (0 : Int) 30) != 0))]) (trivial) ?_
    refine RP_pick [1, 10] (by kernel_rfl : pick _ _ = some [(1, .pointer (some ⟨g4, 0, none⟩)), (10, .bool ((cond (verOk e.c e.n) (0 : Int) 30) != 0))]) ?_
    refine RP_nil ?_
    refine n_then ?_
    refine W_cond rfl (fun c10_9 => ?_) (fun c10_9 => ?_)
    ·
      refine W_seq ?_
      refine W_region ?_
      refine RP_seg 1 [.p (.int .i64 30)] [2] (by kernel_rfl) (fun _ => by kernel_rfl) (by kernel_rfl : pick _ _ = some [(2, .int .i64 30)]) (trivial) ?_
      refine RP_pick [2] (by kernel_rfl : pick _ _ = some [(2, .int .i64 30)]) ?_
      refine RP_nil ?_
      refine n_then ?_
      refine W_ret ?_
      refine r_then ?_
      refine ret_of (P := Tryd.prog) (fn := Tryd.f98) (m := [(2, .int .i64 30)]) (w := w6) (res1 rfl (rv_tmp rfl)) ?_
      -- return 1: .int .i64 30
      exact ⟨by (try rw [c6_5]); (try rw [c10_9]); rfl, st7.ext⟩
    ·
      refine W_skip ?_
      refine n_then ?_
      refine W_seq ?_
      refine W_seq ?_
      refine W_region ?_
      refine RP_seg 4 [.p (.pointer (some ⟨g4, 3, none⟩)), .l 9 (.pointer (some ⟨g4, 3, none⟩)) (.string e.val), .p (.int .i64 (((e.val).size : Nat) : Int)), .p (.bool (decide ((((e.val).size : Nat) : Int) > 32)))] [1, 14] (by kernel_rfl) (fun _ => by kernel_rfl) (by kernel_rfl : pick _ _ = some [(1, .pointer (some ⟨g4, 0, none⟩)), (14, .bool (decide ((((e.val).size : Nat) : Int) > 32)))]) ⟨ld1 st7 nagg_9 0 rfl rfl, trivial⟩ ?_
      refine RP_pick [1, 14] (by kernel_rfl : pick _ _ = some [(1, .pointer (some ⟨g4, 0, none⟩)), (14, .bool (decide ((((e.val).size : Nat) : Int) > 32)))]) ?_
      refine RP_nil ?_
      refine n_then ?_
      refine W_cond rfl (fun c14_10 => ?_) (fun c14_10 => ?_)
      ·
        have c14_10p := of_decide_eq_true c14_10
        refine W_seq ?_
        refine W_region ?_
        refine RP_seg 1 [.p (.int .i64 31)] [2] (by kernel_rfl) (fun _ => by kernel_rfl) (by kernel_rfl : pick _ _ = some [(2, .int .i64 31)]) (trivial) ?_
        refine RP_pick [2] (by kernel_rfl : pick _ _ = some [(2, .int .i64 31)]) ?_
        refine RP_nil ?_
        refine n_then ?_
        refine W_ret ?_
        refine r_then ?_
        refine ret_of (P := Tryd.prog) (fn := Tryd.f98) (m := [(2, .int .i64 31)]) (w := w6) (res1 rfl (rv_tmp rfl)) ?_
        -- return 2: .int .i64 31
        exact ⟨by (try rw [c6_5]); (try rw [c10_9]); (try rw [c14_10]); rfl, st7.ext⟩
      ·
        have c14_10p := of_decide_eq_false c14_10
        refine W_skip ?_
        refine n_then ?_
        refine W_seq ?_
        refine W_seq ?_
        refine W_region ?_
        refine RP_seg 3 [.p (.pointer (some ⟨g4, 4, none⟩)), .l 4 (.pointer (some ⟨g4, 4, none⟩)) (.bool e.dead), .p (.bool e.dead)] [1, 17] (by kernel_rfl) (fun _ => by kernel_rfl) (by kernel_rfl : pick _ _ = some [(1, .pointer (some ⟨g4, 0, none⟩)), (17, .bool e.dead)]) ⟨ld1 st7 nagg_4 0 rfl rfl, trivial⟩ ?_
        rcases Bool.eq_false_or_eq_true (e.dead) with c17_11 | c17_11
        ·
          refine RP_at (m' := [(1, .pointer (some ⟨g4, 0, none⟩)), (17, .bool true)]) (by rw [c17_11]) ?_
          refine RP_seg 4 [.p (.pointer (some ⟨g4, 3, none⟩)), .l 9 (.pointer (some ⟨g4, 3, none⟩)) (.string e.val), .p (.bool (!((e.val).toList == ((⟨#[]⟩ : ByteArray)).toList))), .p (.bool (!((e.val).toList == ((⟨#[]⟩ : ByteArray)).toList)))] [21] (by kernel_rfl) (fun _ => by kernel_rfl) (by kernel_rfl : pick _ _ = some [(21, .bool (!((e.val).toList == ((⟨#[]⟩ : ByteArray)).toList)))]) ⟨ld1 st7 nagg_9 0 rfl rfl, trivial⟩ ?_
          refine RP_pick [21] (by kernel_rfl : pick _ _ = some [(21, .bool (!((e.val).toList == ((⟨#[]⟩ : ByteArray)).toList)))]) ?_
          refine RP_nil ?_
          refine n_then ?_
          refine W_cond rfl (fun c21_12 => ?_) (fun c21_12 => ?_)
          ·
            refine W_seq ?_
            refine W_region ?_
            refine RP_seg 1 [.p (.int .i64 32)] [2] (by kernel_rfl) (fun _ => by kernel_rfl) (by kernel_rfl : pick _ _ = some [(2, .int .i64 32)]) (trivial) ?_
            refine RP_pick [2] (by kernel_rfl : pick _ _ = some [(2, .int .i64 32)]) ?_
            refine RP_nil ?_
            refine n_then ?_
            refine W_ret ?_
            refine r_then ?_
            refine ret_of (P := Tryd.prog) (fn := Tryd.f98) (m := [(2, .int .i64 32)]) (w := w6) (res1 rfl (rv_tmp rfl)) ?_
            -- return 3: .int .i64 32
            exact ⟨by (try rw [c6_5]); (try rw [c10_9]); (try rw [c14_10]); (try rw [c17_11]); (try rw [c21_12]); rfl, st7.ext⟩
          ·
            refine W_skip ?_
            refine n_then ?_
            refine W_seq ?_
            refine W_region ?_
            refine RP_seg 1 [.p (.int .i64 0)] [2] (by kernel_rfl) (fun _ => by kernel_rfl) (by kernel_rfl : pick _ _ = some [(2, .int .i64 0)]) (trivial) ?_
            refine RP_pick [2] (by kernel_rfl : pick _ _ = some [(2, .int .i64 0)]) ?_
            refine RP_nil ?_
            refine n_then ?_
            refine W_ret ?_
            refine ret_of (P := Tryd.prog) (fn := Tryd.f98) (m := [(2, .int .i64 0)]) (w := w6) (res1 rfl (rv_tmp rfl)) ?_
            -- return 4: .int .i64 0
            exact ⟨by (try rw [c6_5]); (try rw [c10_9]); (try rw [c14_10]); (try rw [c17_11]); (try rw [c21_12]); rfl, st7.ext⟩
        ·
          refine RP_at (m' := [(1, .pointer (some ⟨g4, 0, none⟩)), (17, .bool false)]) (by rw [c17_11]) ?_
          refine RP_seg 4 [.no, .no, .no, .p (.bool false)] [21] (by kernel_rfl) (fun _ => by kernel_rfl) (by kernel_rfl : pick _ _ = some [(21, .bool false)]) (trivial) ?_
          refine RP_pick [21] (by kernel_rfl : pick _ _ = some [(21, .bool false)]) ?_
          refine RP_nil ?_
          refine n_then ?_
          refine W_false rfl ?_
          refine W_skip ?_
          refine n_then ?_
          refine W_seq ?_
          refine W_region ?_
          refine RP_seg 1 [.p (.int .i64 0)] [2] (by kernel_rfl) (fun _ => by kernel_rfl) (by kernel_rfl : pick _ _ = some [(2, .int .i64 0)]) (trivial) ?_
          refine RP_pick [2] (by kernel_rfl : pick _ _ = some [(2, .int .i64 0)]) ?_
          refine RP_nil ?_
          refine n_then ?_
          refine W_ret ?_
          refine ret_of (P := Tryd.prog) (fn := Tryd.f98) (m := [(2, .int .i64 0)]) (w := w6) (res1 rfl (rv_tmp rfl)) ?_
          -- return 5: .int .i64 0
          exact ⟨by (try rw [c6_5]); (try rw [c10_9]); (try rw [c14_10]); (try rw [c17_11]); rfl, st7.ext⟩
theorem ref02_cr (r : Rng) (w : World) : CR Tryd.prog 43 [r.v] w fun v w' => v = .int .i64 r.check ∧ Ext [] w w' := by
  have st := St.init w []
  unfold Rng.check kgt
  refine CR_enter Tryd.func43 rfl Tryd.ntmps43 rfl ?_
  refine W_seq ?_
  refine W_region ?_
  refine RP_e rfl (ef_box st rfl rfl) ?_
  rintro _ w1 ⟨g4, rfl, hg4, hg4', st2, hx3⟩
  replace st2 : St [] w w1 [(g4, 24, [.string r.lo, .string r.hi, .bool r.op])] := st2
  refine RP_seg 1 [.p (.int .i64 0)] [1] (by kernel_rfl) (fun _ => by kernel_rfl) (by kernel_rfl : pick _ _ = some [(1, .pointer (some ⟨g4, 0, none⟩))]) (trivial) ?_
  refine RP_pick [1] (by kernel_rfl : pick _ _ = some [(1, .pointer (some ⟨g4, 0, none⟩))]) ?_
  refine RP_nil ?_
  refine n_then ?_
  refine W_seq ?_
  refine W_seq ?_
  refine W_region ?_
  refine RP_seg 5 [.p (.pointer (some ⟨g4, 0, none⟩)), .l 9 (.pointer (some ⟨g4, 0, none⟩)) (.string r.lo), .p (.int .i64 (((r.lo).size : Nat) : Int)), .p (.bool (decide ((((r.lo).size : Nat) : Int) > 16))), .p (.bool (decide ((((r.lo).size : Nat) : Int) > 16)))] [1, 7] (by kernel_rfl) (fun _ => by kernel_rfl) (by kernel_rfl : pick _ _ = some [(1, .pointer (some ⟨g4, 0, none⟩)), (7, .bool (decide ((((r.lo).size : Nat) : Int) > 16)))]) ⟨ld1 st2 nagg_9 0 rfl rfl, trivial⟩ ?_
  rcases Bool.eq_false_or_eq_true (decide ((((r.lo).size : Nat) : Int) > 16)) with c7_5 | c7_5
  ·
    have c7_5p := of_decide_eq_true c7_5
    refine RP_at (m' := [(1, .pointer (some ⟨g4, 0, none⟩)), (7, .bool true)]) (by rw [c7_5]) ?_
    refine RP_seg 5 [.no, .no, .no, .no, .p (.bool true)] [1, 12] (by kernel_rfl) (fun _ => by kernel_rfl) (by kernel_rfl : pick _ _ = some [(1, .pointer (some ⟨g4, 0, none⟩)), (12, .bool true)]) (trivial) ?_
    refine RP_pick [1, 12] (by kernel_rfl : pick _ _ = some [(1, .pointer (some ⟨g4, 0, none⟩)), (12, .bool true)]) ?_
    refine RP_nil ?_
    refine n_then ?_
    refine W_true rfl ?_
    refine W_seq ?_
    refine W_region ?_
    refine RP_seg 1 [.p (.int .i64 20)] [2] (by kernel_rfl) (fun _ => by kernel_rfl) (by kernel_rfl : pick _ _ = some [(2, .int .i64 20)]) (trivial) ?_
    refine RP_pick [2] (by kernel_rfl : pick _ _ = some [(2, .int .i64 20)]) ?_
    refine RP_nil ?_
    refine n_then ?_
    refine W_ret ?_
    refine r_then ?_
    refine ret_of (P := Tryd.prog) (fn := Tryd.f43) (m := [(2, .int .i64 20)]) (w := w1) (res1 rfl (rv_tmp rfl)) ?_
    -- return 0: .int .i64 20
    exact ⟨by (try rw [c7_5]); rfl, st2.ext⟩
  ·
    have c7_5p := of_decide_eq_false c7_5
    refine RP_at (m' := [(1, .pointer (some ⟨g4, 0, none⟩)), (7, .bool false)]) (by rw [c7_5]) ?_
    refine RP_seg 5 [.p (.pointer (some ⟨g4, 1, none⟩)), .l 9 (.pointer (some ⟨g4, 1, none⟩)) (.string r.hi), .p (.int .i64 (((r.hi).size : Nat) : Int)), .p (.bool (decide ((((r.hi).size : Nat) : Int) > 16))), .p (.bool (decide ((((r.hi).size : Nat) : Int) > 16)))] [1, 12] (by kernel_rfl) (fun _ => by kernel_rfl) (by kernel_rfl : pick _ _ = some [(1, .pointer (some ⟨g4, 0, none⟩)), (12, .bool (decide ((((r.hi).size : Nat) : Int) > 16)))]) ⟨ld1 st2 nagg_9 0 rfl rfl, trivial⟩ ?_
    refine RP_pick [1, 12] (by kernel_rfl : pick _ _ = some [(1, .pointer (some ⟨g4, 0, none⟩)), (12, .bool (decide ((((r.hi).size : Nat) : Int) > 16)))]) ?_
    refine RP_nil ?_
    refine n_then ?_
    refine W_cond rfl (fun c12_6 => ?_) (fun c12_6 => ?_)
    ·
      have c12_6p := of_decide_eq_true c12_6
      refine W_seq ?_
      refine W_region ?_
      refine RP_seg 1 [.p (.int .i64 20)] [2] (by kernel_rfl) (fun _ => by kernel_rfl) (by kernel_rfl : pick _ _ = some [(2, .int .i64 20)]) (trivial) ?_
      refine RP_pick [2] (by kernel_rfl : pick _ _ = some [(2, .int .i64 20)]) ?_
      refine RP_nil ?_
      refine n_then ?_
      refine W_ret ?_
      refine r_then ?_
      refine ret_of (P := Tryd.prog) (fn := Tryd.f43) (m := [(2, .int .i64 20)]) (w := w1) (res1 rfl (rv_tmp rfl)) ?_
      -- return 1: .int .i64 20
      exact ⟨by (try rw [c7_5]); (try rw [c12_6]); rfl, st2.ext⟩
    ·
      have c12_6p := of_decide_eq_false c12_6
      refine W_skip ?_
      refine n_then ?_
      refine W_seq ?_
      refine W_seq ?_
      refine W_region ?_
      refine RP_seg 3 [.p (.pointer (some ⟨g4, 2, none⟩)), .l 4 (.pointer (some ⟨g4, 2, none⟩)) (.bool r.op), .p (.bool r.op)] [1, 15] (by kernel_rfl) (fun _ => by kernel_rfl) (by kernel_rfl : pick _ _ = some [(1, .pointer (some ⟨g4, 0, none⟩)), (15, .bool r.op)]) ⟨ld1 st2 nagg_4 0 rfl rfl, trivial⟩ ?_
      rcases Bool.eq_false_or_eq_true (r.op) with c15_7 | c15_7
      ·
        refine RP_at (m' := [(1, .pointer (some ⟨g4, 0, none⟩)), (15, .bool true)]) (by rw [c15_7]) ?_
        refine RP_seg 5 [.p (.pointer (some ⟨g4, 1, none⟩)), .l 9 (.pointer (some ⟨g4, 1, none⟩)) (.string r.hi), .p (.bool (!((r.hi).toList == ((⟨#[]⟩ : ByteArray)).toList))), .p (.bool (!((r.hi).toList == ((⟨#[]⟩ : ByteArray)).toList))), .p (.bool (!((r.hi).toList == ((⟨#[]⟩ : ByteArray)).toList)))] [1, 20] (by kernel_rfl) (fun _ => by kernel_rfl) (by kernel_rfl : pick _ _ = some [(1, .pointer (some ⟨g4, 0, none⟩)), (20, .bool (!((r.hi).toList == ((⟨#[]⟩ : ByteArray)).toList)))]) ⟨ld1 st2 nagg_9 0 rfl rfl, trivial⟩ ?_
        rcases Bool.eq_false_or_eq_true (!((r.hi).toList == ((⟨#[]⟩ : ByteArray)).toList)) with c20_8 | c20_8
        ·
          refine RP_at (m' := [(1, .pointer (some ⟨g4, 0, none⟩)), (20, .bool true)]) (by rw [c20_8]) ?_
          refine RP_seg 11 [.no, .no, .no, .no, .no, .no, .no, .no, .no, .no, .p (.bool true)] [31] (by kernel_rfl) (fun _ => by kernel_rfl) (by kernel_rfl : pick _ _ = some [(31, .bool true)]) (trivial) ?_
          refine RP_pick [31] (by kernel_rfl : pick _ _ = some [(31, .bool true)]) ?_
          refine RP_nil ?_
          refine n_then ?_
          refine W_true rfl ?_
          refine W_seq ?_
          refine W_region ?_
          refine RP_seg 1 [.p (.int .i64 21)] [2] (by kernel_rfl) (fun _ => by kernel_rfl) (by kernel_rfl : pick _ _ = some [(2, .int .i64 21)]) (trivial) ?_
          refine RP_pick [2] (by kernel_rfl : pick _ _ = some [(2, .int .i64 21)]) ?_
          refine RP_nil ?_
          refine n_then ?_
          refine W_ret ?_
          refine r_then ?_
          refine ret_of (P := Tryd.prog) (fn := Tryd.f43) (m := [(2, .int .i64 21)]) (w := w1) (res1 rfl (rv_tmp rfl)) ?_
          -- return 2: .int .i64 21
          exact ⟨by (try rw [c7_5]); (try rw [c12_6]); (try rw [c15_7]); (try rw [c20_8]); rfl, st2.ext⟩
        ·
          refine RP_at (m' := [(1, .pointer (some ⟨g4, 0, none⟩)), (20, .bool false)]) (by rw [c20_8]) ?_
          refine RP_seg 4 [.p (.pointer (some ⟨g4, 2, none⟩)), .l 4 (.pointer (some ⟨g4, 2, none⟩)) (.bool r.op), .p (.bool (!r.op)), .p (.bool (!r.op))] [1, 20, 24] (by kernel_rfl) (fun _ => by kernel_rfl) (by kernel_rfl : pick _ _ = some [(1, .pointer (some ⟨g4, 0, none⟩)), (20, .bool false), (24, .bool (!r.op))]) ⟨ld1 st2 nagg_4 0 rfl rfl, trivial⟩ ?_
          have cn9 : (!r.op) = false := by rw [c15_7]; rfl
          refine RP_at (m' := [(1, .pointer (some ⟨g4, 0, none⟩)), (20, .bool false), (24, .bool false)]) (by rw [cn9]) ?_
          refine RP_seg 7 [.no, .no, .no, .no, .no, .p (.bool false), .p (.bool false)] [31] (by kernel_rfl) (fun _ => by kernel_rfl) (by kernel_rfl : pick _ _ = some [(31, .bool false)]) (trivial) ?_
          refine RP_pick [31] (by kernel_rfl : pick _ _ = some [(31, .bool false)]) ?_
          refine RP_nil ?_
          refine n_then ?_
          refine W_false rfl ?_
          refine W_skip ?_
          refine n_then ?_
          refine W_seq ?_
          refine W_region ?_
          refine RP_seg 1 [.p (.int .i64 0)] [2] (by kernel_rfl) (fun _ => by kernel_rfl) (by kernel_rfl : pick _ _ = some [(2, .int .i64 0)]) (trivial) ?_
          refine RP_pick [2] (by kernel_rfl : pick _ _ = some [(2, .int .i64 0)]) ?_
          refine RP_nil ?_
          refine n_then ?_
          refine W_ret ?_
          refine ret_of (P := Tryd.prog) (fn := Tryd.f43) (m := [(2, .int .i64 0)]) (w := w1) (res1 rfl (rv_tmp rfl)) ?_
          -- return 3: .int .i64 0
          exact ⟨by (try rw [c7_5]); (try rw [c12_6]); (try rw [c15_7]); (try rw [c20_8]); (try rw [cn9]); rfl, st2.ext⟩
      ·
        refine RP_at (m' := [(1, .pointer (some ⟨g4, 0, none⟩)), (15, .bool false)]) (by rw [c15_7]) ?_
        refine RP_seg 9 [.no, .no, .no, .p (.bool false), .p (.bool false), .p (.pointer (some ⟨g4, 2, none⟩)), .l 4 (.pointer (some ⟨g4, 2, none⟩)) (.bool r.op), .p (.bool (!r.op)), .p (.bool (!r.op))] [1, 20, 24] (by kernel_rfl) (fun _ => by kernel_rfl) (by kernel_rfl : pick _ _ = some [(1, .pointer (some ⟨g4, 0, none⟩)), (20, .bool false), (24, .bool (!r.op))]) ⟨ld1 st2 nagg_4 0 rfl rfl, trivial⟩ ?_
        have cn10 : (!r.op) = true := by rw [c15_7]; rfl
        refine RP_at (m' := [(1, .pointer (some ⟨g4, 0, none⟩)), (20, .bool false), (24, .bool true)]) (by rw [cn10]) ?_
        refine RP_seg 7 [.p (.pointer (some ⟨g4, 0, none⟩)), .l 9 (.pointer (some ⟨g4, 0, none⟩)) (.string r.lo), .p (.pointer (some ⟨g4, 1, none⟩)), .l 9 (.pointer (some ⟨g4, 1, none⟩)) (.string r.hi), .p (.bool (!(Op.bytesLess (r.lo).toList (r.hi).toList || (r.lo).toList == (r.hi).toList))), .p (.bool (!(Op.bytesLess (r.lo).toList (r.hi).toList || (r.lo).toList == (r.hi).toList))), .p (.bool (!(Op.bytesLess (r.lo).toList (r.hi).toList || (r.lo).toList == (r.hi).toList)))] [31] (by kernel_rfl) (fun _ => by kernel_rfl) (by kernel_rfl : pick _ _ = some [(31, .bool (!(Op.bytesLess (r.lo).toList (r.hi).toList || (r.lo).toList == (r.hi).toList)))]) ⟨ld1 st2 nagg_9 0 rfl rfl, ld1 st2 nagg_9 0 rfl rfl, trivial⟩ ?_
        refine RP_pick [31] (by kernel_rfl : pick _ _ = some [(31, .bool (!(Op.bytesLess (r.lo).toList (r.hi).toList || (r.lo).toList == (r.hi).toList)))]) ?_
        refine RP_nil ?_
        refine n_then ?_
        refine W_cond rfl (fun c31_11 => ?_) (fun c31_11 => ?_)
        ·
          refine W_seq ?_
          refine W_region ?_
          refine RP_seg 1 [.p (.int .i64 21)] [2] (by kernel_rfl) (fun _ => by kernel_rfl) (by kernel_rfl : pick _ _ = some [(2, .int .i64 21)]) (trivial) ?_
          refine RP_pick [2] (by kernel_rfl : pick _ _ = some [(2, .int .i64 21)]) ?_
          refine RP_nil ?_
          refine n_then ?_
          refine W_ret ?_
          refine r_then ?_
          refine ret_of (P := Tryd.prog) (fn := Tryd.f43) (m := [(2, .int .i64 21)]) (w := w1) (res1 rfl (rv_tmp rfl)) ?_
          -- return 4: .int .i64 21
          exact ⟨by (try rw [c7_5]); (try rw [c12_6]); (try rw [c15_7]); (try rw [cn10]); (try rw [c31_11]); rfl, st2.ext⟩
        ·
          refine W_skip ?_
          refine n_then ?_
          refine W_seq ?_
          refine W_region ?_
          refine RP_seg 1 [.p (.int .i64 0)] [2] (by kernel_rfl) (fun _ => by kernel_rfl) (by kernel_rfl : pick _ _ = some [(2, .int .i64 0)]) (trivial) ?_
          refine RP_pick [2] (by kernel_rfl : pick _ _ = some [(2, .int .i64 0)]) ?_
          refine RP_nil ?_
          refine n_then ?_
          refine W_ret ?_
          refine ret_of (P := Tryd.prog) (fn := Tryd.f43) (m := [(2, .int .i64 0)]) (w := w1) (res1 rfl (rv_tmp rfl)) ?_
          -- return 5: .int .i64 0
          exact ⟨by (try rw [c7_5]); (try rw [c12_6]); (try rw [c15_7]); (try rw [cn10]); (try rw [c31_11]); rfl, st2.ext⟩
theorem ref02holds_cr (r : Rng) (k : ByteArray) (w : World) : CR Tryd.prog 50 [r.v, .string k] w fun v w' => v = .bool (r.holds k) ∧ Ext [] w w' := by
  have st := St.init w []
  unfold Rng.holds kle Rng.below klt
  rw [blt_total]
  refine CR_enter Tryd.func50 rfl Tryd.ntmps50 rfl ?_
  refine W_seq ?_
  refine W_region ?_
  refine RP_e rfl (ef_box st rfl rfl) ?_
  rintro _ w1 ⟨g4, rfl, hg4, hg4', st2, hx3⟩
  replace st2 : St [] w w1 [(g4, 24, [.string r.lo, .string r.hi, .bool r.op])] := st2
  refine RP_seg 1 [.p (.bool false)] [1, 2] (by kernel_rfl) (fun _ => by kernel_rfl) (by kernel_rfl : pick _ _ = some [(1, .string k), (2, .pointer (some ⟨g4, 0, none⟩))]) (trivial) ?_
  refine RP_pick [1, 2] (by kernel_rfl : pick _ _ = some [(1, .string k), (2, .pointer (some ⟨g4, 0, none⟩))]) ?_
  refine RP_nil ?_
  refine n_then ?_
  refine W_seq ?_
  refine W_region ?_
  refine RP_seg 1 [.l 24 (.pointer (some ⟨g4, 0, none⟩)) (.agg #[.string r.lo, .string r.hi, .bool r.op])] [1, 2, 5] (by kernel_rfl) (fun _ => by kernel_rfl) (by kernel_rfl : pick _ _ = some [(1, .string k), (2, .pointer (some ⟨g4, 0, none⟩)), (5, .agg #[.string r.lo, .string r.hi, .bool r.op])]) ⟨ldN st2 agg_24 0 rfl rfl rfl, trivial⟩ ?_
  refine RP_e rfl (ef_call (k := 43) (args := [.agg #[.string r.lo, .string r.hi, .bool r.op]]) (ref02_cr r _) body_43 (by kernel_rfl)) ?_
  rintro _ w5 ⟨_, rfl, rfl, hx7⟩
  have st6 := st2.call0 hx7
  refine RP_seg 2 [.p (.bool (r.check == 0)), .p (.bool (r.check == 0))] [1, 2, 8] (by kernel_rfl) (fun _ => by kernel_rfl) (by kernel_rfl : pick _ _ = some [(1, .string k), (2, .pointer (some ⟨g4, 0, none⟩)), (8, .bool (r.check == 0))]) (trivial) ?_
  rcases Bool.eq_false_or_eq_true (r.check == 0) with c8_8 | c8_8
  ·
    refine RP_at (m' := [(1, .string k), (2, .pointer (some ⟨g4, 0, none⟩)), (8, .bool true)]) (by rw [c8_8]) ?_
    refine RP_seg 5 [.p (.string k), .p (.int .i64 (((k).size : Nat) : Int)), .p (.bool (decide ((((k).size : Nat) : Int) ≤ 16))), .p (.bool (decide ((((k).size : Nat) : Int) ≤ 16))), .p (.bool (decide ((((k).size : Nat) : Int) ≤ 16)))] [1, 2, 13] (by kernel_rfl) (fun _ => by kernel_rfl) (by kernel_rfl : pick _ _ = some [(1, .string k), (2, .pointer (some ⟨g4, 0, none⟩)), (13, .bool (decide ((((k).size : Nat) : Int) ≤ 16)))]) (trivial) ?_
    rcases Bool.eq_false_or_eq_true (decide ((((k).size : Nat) : Int) ≤ 16)) with c13_9 | c13_9
    ·
      have c13_9p := of_decide_eq_true c13_9
      refine RP_at (m' := [(1, .string k), (2, .pointer (some ⟨g4, 0, none⟩)), (13, .bool true)]) (by rw [c13_9]) ?_
      refine RP_seg 6 [.p (.string k), .p (.pointer (some ⟨g4, 0, none⟩)), .l 9 (.pointer (some ⟨g4, 0, none⟩)) (.string r.lo), .p (.bool (!(Op.bytesLess (k).toList (r.lo).toList))), .p (.bool (!(Op.bytesLess (k).toList (r.lo).toList))), .p (.bool (!(Op.bytesLess (k).toList (r.lo).toList)))] [1, 2, 19] (by kernel_rfl) (fun _ => by kernel_rfl) (by kernel_rfl : pick _ _ = some [(1, .string k), (2, .pointer (some ⟨g4, 0, none⟩)), (19, .bool (!(Op.bytesLess (k).toList (r.lo).toList)))]) ⟨ld1 st6 nagg_9 0 rfl rfl, trivial⟩ ?_
      rcases Bool.eq_false_or_eq_true (!(Op.bytesLess (k).toList (r.lo).toList)) with c19_10 | c19_10
      ·
        refine RP_at (m' := [(1, .string k), (2, .pointer (some ⟨g4, 0, none⟩)), (19, .bool true)]) (by rw [c19_10]) ?_
        refine RP_seg 3 [.p (.pointer (some ⟨g4, 2, none⟩)), .l 4 (.pointer (some ⟨g4, 2, none⟩)) (.bool r.op), .p (.bool r.op)] [1, 2, 19, 22] (by kernel_rfl) (fun _ => by kernel_rfl) (by kernel_rfl : pick _ _ = some [(1, .string k), (2, .pointer (some ⟨g4, 0, none⟩)), (19, .bool true), (22, .bool r.op)]) ⟨ld1 st6 nagg_4 0 rfl rfl, trivial⟩ ?_
        rcases Bool.eq_false_or_eq_true (r.op) with c22_11 | c22_11
        ·
          refine RP_at (m' := [(1, .string k), (2, .pointer (some ⟨g4, 0, none⟩)), (19, .bool true), (22, .bool true)]) (by rw [c22_11]) ?_
          refine RP_seg 7 [.no, .no, .no, .no, .p (.bool true), .p (.bool true), .p (.bool true)] [4] (by kernel_rfl) (fun _ => by kernel_rfl) (by kernel_rfl : pick _ _ = some [(4, .bool true)]) (trivial) ?_
          refine RP_pick [4] (by kernel_rfl : pick _ _ = some [(4, .bool true)]) ?_
          refine RP_nil ?_
          refine n_then ?_
          refine W_ret ?_
          refine ret_of (P := Tryd.prog) (fn := Tryd.f50) (m := [(4, .bool true)]) (w := w5) (res1 rfl (rv_tmp rfl)) ?_
          -- return 0: .bool true
          exact ⟨by (try rw [c8_8]); (try rw [c13_9]); (try rw [c19_10]); (try rw [c22_11]); rfl, st6.ext⟩
        ·
          refine RP_at (m' := [(1, .string k), (2, .pointer (some ⟨g4, 0, none⟩)), (19, .bool true), (22, .bool false)]) (by rw [c22_11]) ?_
          refine RP_seg 7 [.p (.string k), .p (.pointer (some ⟨g4, 1, none⟩)), .l 9 (.pointer (some ⟨g4, 1, none⟩)) (.string r.hi), .p (.bool (Op.bytesLess (k).toList (r.hi).toList)), .p (.bool (Op.bytesLess (k).toList (r.hi).toList)), .p (.bool (Op.bytesLess (k).toList (r.hi).toList)), .p (.bool (Op.bytesLess (k).toList (r.hi).toList))] [4] (by kernel_rfl) (fun _ => by kernel_rfl) (by kernel_rfl : pick _ _ = some [(4, .bool (Op.bytesLess (k).toList (r.hi).toList))]) ⟨ld1 st6 nagg_9 0 rfl rfl, trivial⟩ ?_
          refine RP_pick [4] (by kernel_rfl : pick _ _ = some [(4, .bool (Op.bytesLess (k).toList (r.hi).toList))]) ?_
          refine RP_nil ?_
          refine n_then ?_
          refine W_ret ?_
          refine ret_of (P := Tryd.prog) (fn := Tryd.f50) (m := [(4, .bool (Op.bytesLess (k).toList (r.hi).toList))]) (w := w5) (res1 rfl (rv_tmp rfl)) ?_
          -- return 1: .bool (Op.bytesLess (k).toList (r.hi).toList)
          exact ⟨by (try rw [c8_8]); (try rw [c13_9]); (try rw [c19_10]); (try rw [c22_11]); rfl, st6.ext⟩
      ·
        refine RP_at (m' := [(1, .string k), (2, .pointer (some ⟨g4, 0, none⟩)), (19, .bool false)]) (by rw [c19_10]) ?_
        refine RP_seg 10 [.no, .no, .no, .no, .no, .no, .no, .no, .p (.bool false), .p (.bool false)] [4] (by kernel_rfl) (fun _ => by kernel_rfl) (by kernel_rfl : pick _ _ = some [(4, .bool false)]) (trivial) ?_
        refine RP_pick [4] (by kernel_rfl : pick _ _ = some [(4, .bool false)]) ?_
        refine RP_nil ?_
        refine n_then ?_
        refine W_ret ?_
        refine ret_of (P := Tryd.prog) (fn := Tryd.f50) (m := [(4, .bool false)]) (w := w5) (res1 rfl (rv_tmp rfl)) ?_
        -- return 2: .bool false
        exact ⟨by (try rw [c8_8]); (try rw [c13_9]); (try rw [c19_10]); rfl, st6.ext⟩
    ·
      have c13_9p := of_decide_eq_false c13_9
      refine RP_at (m' := [(1, .string k), (2, .pointer (some ⟨g4, 0, none⟩)), (13, .bool false)]) (by rw [c13_9]) ?_
      refine RP_seg 16 [.no, .no, .no, .no, .p (.bool false), .p (.bool false), .no, .no, .no, .no, .no, .no, .no, .no, .p (.bool false), .p (.bool false)] [4] (by kernel_rfl) (fun _ => by kernel_rfl) (by kernel_rfl : pick _ _ = some [(4, .bool false)]) (trivial) ?_
      refine RP_pick [4] (by kernel_rfl : pick _ _ = some [(4, .bool false)]) ?_
      refine RP_nil ?_
      refine n_then ?_
      refine W_ret ?_
      refine ret_of (P := Tryd.prog) (fn := Tryd.f50) (m := [(4, .bool false)]) (w := w5) (res1 rfl (rv_tmp rfl)) ?_
      -- return 3: .bool false
      exact ⟨by (try rw [c8_8]); (try rw [c13_9]); rfl, st6.ext⟩
  ·
    refine RP_at (m' := [(1, .string k), (2, .pointer (some ⟨g4, 0, none⟩)), (8, .bool false)]) (by rw [c8_8]) ?_
    refine RP_seg 21 [.no, .no, .no, .p (.bool false), .p (.bool false), .no, .no, .no, .no, .p (.bool false), .p (.bool false), .no, .no, .no, .no, .no, .no, .no, .no, .p (.bool false), .p (.bool false)] [4] (by kernel_rfl) (fun _ => by kernel_rfl) (by kernel_rfl : pick _ _ = some [(4, .bool false)]) (trivial) ?_
    refine RP_pick [4] (by kernel_rfl : pick _ _ = some [(4, .bool false)]) ?_
    refine RP_nil ?_
    refine n_then ?_
    refine W_ret ?_
    refine ret_of (P := Tryd.prog) (fn := Tryd.f50) (m := [(4, .bool false)]) (w := w5) (res1 rfl (rv_tmp rfl)) ?_
    -- return 4: .bool false
    exact ⟨by (try rw [c8_8]); rfl, st6.ext⟩
section
variable {P : Program} {n : Nat} {m : SM} {w w0 w' : World} {X : List Nat} {M : List (Nat × TypeId × List Value)}
variable {dst : Option Nat} {ty : TypeId} {pos : String} {af : Array Edge} {gd : Option (Nat × Bool)}
/-- append of a slice that came in -/
theorem ef_appendI {x y : Operand} {t e : TypeId} {size bytes : Nat} (hT : AppT P t e size bytes) {k c : Nat} {b : Option Addr} {v : Value} {j : Nat} {xs ns : List Value} (st : St X w0 w M) (ha : Acc w0 X w e size v k xs) (hx : opv m x = some v)
    (hy : opv m y = some (.slice b j c)) (hin : InS w b ns) (hl : ns.length = j * size) (h1 : ns.all (·.oneCell) = true) (hn : k + j ≤ maxLen) (hbytes : (k + j) * bytes ≤ 140737488355328) (hdis : ∀ q ∈ M.map (·.1), q ∉ ownB v) :
    Ef P m ⟨dst, .call ⟨.builtin .append, #[x, y], #[t, t]⟩, ty, pos, af, gd⟩ w fun r W => ∃ v', r = some v' ∧ Acc w0 X W e size v' (k + j) (xs ++ ns) ∧ St X w0 W M ∧ Ext (ownB v) w W := fun ρ hρ => by
  obtain ⟨i, z, hi, hz, hs, hb, hzs, hsz⟩ := hT.ex
  have key : ∀ a : Addr, b = some a → (∀ (q : Nat) (u : Value), ns[q]? = some u → w.cell? (a.add q) = some u) → ∃ v' w', (Builtin.append_ #[t, t] ty #[v, .slice b j c]).run P w = .ok v' w' ∧ Acc w0 X w' e size v' (k + j) (xs ++ ns) ∧ St X w0 w' M ∧ Ext (ownB v) w w' := fun a hba hc => by
    subst hba
    obtain ⟨v', w', hr, h2, h3, h4, h5⟩ := run_append_own_at (P := P) w 0 t ty e i z size bytes hT.ht hi hz hs hb hzs hsz v k xs ha.own a j c ns hl hc (fun u hu => by
      have := List.all_eq_true.1 h1 u hu
      cases u <;> simp_all [Value.oneCell, Value.oneCell']) hn hbytes (Nat.zero_le _)
    refine ⟨v', w', hr, ⟨h2, fun q hq => ?_⟩, st.call (Ext.of_grown h3) hdis ha.inn, Ext.of_grown h3⟩
    rcases h5 with h5 | h5
    · exact ha.inn q (by simpa [ownB, h5] using hq)
    · simp [ownB, h5] at hq
      have := st.ext.size
      exact .inr (by omega)
  have main : ∃ v' w', (Builtin.append_ #[t, t] ty #[v, .slice b j c]).run P w = .ok v' w' ∧ Acc w0 X w' e size v' (k + j) (xs ++ ns) ∧ St X w0 w' M ∧ Ext (ownB v) w w' := by
    cases b with
    | none =>
      have hns : ns = [] := by
        rcases hin with h | ⟨h, _⟩
        · exact h
        · cases h
      subst hns
      have hj : j = 0 := by
        rcases Nat.eq_zero_or_pos j with h | h
        · exact h
        · have := Nat.mul_pos h hsz; simp at hl; omega
      subst hj
      obtain ⟨b', c', hv⟩ := ownsRow.form' ha.own
      refine ⟨v, w, ?_, by simpa using ha, st, Ext.refl _ _⟩
      subst hv
      have hkc : k ≤ c' := by
        rcases ha.own.2 with ⟨h, rfl⟩ | ⟨g, cap, cur, h, _, _, h3, _⟩
        · exact Nat.zero_le _
        · injection h with _ _ h; omega
      have hu : P.underlying t = some (.slice e) := hT.ht
      cases b' <;> simp [Builtin.append_, run_underlying hu, sizeOf, typeInfo, hi, Builtin.lenOf, Builtin.firstCells, hkc, storeCells]
    | some a =>
      refine key a rfl fun q u hu => ?_
      rcases hin with h | ⟨h, _, h3⟩
      · subst h; simp at hu
      · obtain ⟨g, o, s⟩ := a
        simp only [sp, so, Option.some.injEq, Addr.mk.injEq, true_and] at h h3
        subst h
        have e : ((⟨g, o, none⟩ : Addr).add q) = ⟨g, o + q, none⟩ := by unfold Addr.add; split <;> simp_all
        rw [e]; exact h3 q u hu
  obtain ⟨v', w', hr, h2, h3, h4⟩ := main
  refine .inl ⟨v', w', ?_, v', rfl, h2, h3, h4⟩
  simp only [execOp, resolve, invoke, builtin, Sem.run_bind, Sem.run_pure, Result.andThen_ok, List.map_toArray, List.map_cons, List.map_nil, hρ.get hx, hρ.get hy, hr]
end
theorem entCells_one (l : List Ent) : (entCells l).all (·.oneCell) = true := by
  induction l with
  | nil => rfl
  | cons e l ih =>
    have : entCells (e :: l) = e.cells ++ entCells l := by simp [entCells]
    rw [this, List.all_append, ih]; rfl
end Go.Proofs.YtcopemgkjbaaeaaDoor
