/-
  Ranges: span.Check, Empty, below, Holds; store.rank, Fold.
-/
import Derived.Test.YtcopemgkjbaaeaaDoorLd
namespace Go.Proofs.YtcopemgkjbaaeaaDoor
set_option linter.all false
open Go.RowKit

structure Rng where
  lo : ByteArray
  hi : ByteArray
  op : Bool
def Rng.v (r : Rng) : Value := .agg #[.string r.lo, .string r.hi, .bool r.op]
def Rng.check (r : Rng) : Int := cond (decide (((r.lo.size : Nat) : Int) > 16)) 20 (cond (decide (((r.hi.size : Nat) : Int) > 16)) 20 (cond (r.op && !(r.hi.toList == (⟨#[]⟩ : ByteArray).toList)) 21 (cond (!r.op && kgt r.lo r.hi) 21 0)))

theorem spanCheck_cr (r : Rng) (w : World) : CR Tryd.prog 29 [r.v] w fun v w' => v = .int .i64 r.check ∧ Ext [] w w' := by
  have st := St.init w []
  unfold Rng.check kgt
  refine CR_enter Tryd.func29 rfl Tryd.ntmps29 rfl ?_
  refine W_seq ?_
  refine W_region ?_
  refine RP_e rfl (ef_box st rfl rfl) ?_
  rintro _ w1 ⟨g4, rfl, hg4, hg4', st2, hx3⟩
  replace st2 : St [] w w1 [(g4, 24, [.string r.lo, .string r.hi, .bool r.op])] := st2
  refine RP_seg 1 [.p (.int .i64 0)] [1] (by kernel_rfl) (fun _ => by kernel_rfl) (by kernel_rfl : pick _ _ = some [(1, .pointer (some ⟨g4, 0, none⟩))]) (trivial) ?_
  refine RP_pick [1] (by kernel_rfl : pick _ _ = some [(1, .pointer (some ⟨g4, 0, none⟩))]) ?_
  refine RP_nil ?_
  refine n_then ?_
  refine W_seq ?_
  refine W_block ?_
  refine W_seq ?_
  refine W_seq ?_
  refine W_region ?_
  refine RP_seg 5 [.p (.pointer (some ⟨g4, 0, none⟩)), .l 9 (.pointer (some ⟨g4, 0, none⟩)) (.string r.lo), .p (.int .i64 (((r.lo).size : Nat) : Int)), .p (.bool (decide ((((r.lo).size : Nat) : Int) > 16))), .p (.bool (decide ((((r.lo).size : Nat) : Int) > 16)))] [1, 3] (by kernel_rfl) (fun _ => by kernel_rfl) (by kernel_rfl : pick _ _ = some [(1, .pointer (some ⟨g4, 0, none⟩)), (3, .bool (decide ((((r.lo).size : Nat) : Int) > 16)))]) ⟨ld1 st2 nagg_9 0 rfl rfl, trivial⟩ ?_
  refine RP_pick [1, 3] (by kernel_rfl : pick _ _ = some [(1, .pointer (some ⟨g4, 0, none⟩)), (3, .bool (decide ((((r.lo).size : Nat) : Int) > 16)))]) ?_
  refine RP_nil ?_
  refine n_then ?_
  refine W_cond rfl (fun c3_5 => ?_) (fun c3_5 => ?_)
  ·
    have c3_5p := of_decide_eq_true c3_5
    refine W_skip ?_
    refine n_then ?_
    refine W_true' rfl c3_5 ?_
    refine W_seq ?_
    refine W_region ?_
    refine RP_seg 1 [.p (.int .i64 20)] [2] (by kernel_rfl) (fun _ => by kernel_rfl) (by kernel_rfl : pick _ _ = some [(2, .int .i64 20)]) (trivial) ?_
    refine RP_pick [2] (by kernel_rfl : pick _ _ = some [(2, .int .i64 20)]) ?_
    refine RP_nil ?_
    refine n_then ?_
    refine W_ret ?_
    refine r_block <| r_then ?_
    refine ret_of (P := Tryd.prog) (fn := Tryd.f29) (m := [(2, .int .i64 20)]) (w := w1) (res1 rfl (rv_tmp rfl)) ?_
    -- return 0: .int .i64 20
    exact ⟨by (try rw [c3_5]); rfl, st2.ext⟩
  ·
    have c3_5p := of_decide_eq_false c3_5
    refine W_region ?_
    refine RP_seg 5 [.p (.pointer (some ⟨g4, 1, none⟩)), .l 9 (.pointer (some ⟨g4, 1, none⟩)) (.string r.hi), .p (.int .i64 (((r.hi).size : Nat) : Int)), .p (.bool (decide ((((r.hi).size : Nat) : Int) > 16))), .p (.bool (decide ((((r.hi).size : Nat) : Int) > 16)))] [1, 3] (by kernel_rfl) (fun _ => by kernel_rfl) (by kernel_rfl : pick _ _ = some [(1, .pointer (some ⟨g4, 0, none⟩)), (3, .bool (decide ((((r.hi).size : Nat) : Int) > 16)))]) ⟨ld1 st2 nagg_9 0 rfl rfl, trivial⟩ ?_
    refine RP_pick [1, 3] (by kernel_rfl : pick _ _ = some [(1, .pointer (some ⟨g4, 0, none⟩)), (3, .bool (decide ((((r.hi).size : Nat) : Int) > 16)))]) ?_
    refine RP_nil ?_
    refine n_then ?_
    refine W_cond rfl (fun c3_6 => ?_) (fun c3_6 => ?_)
    ·
      have c3_6p := of_decide_eq_true c3_6
      refine W_seq ?_
      refine W_region ?_
      refine RP_seg 1 [.p (.int .i64 20)] [2] (by kernel_rfl) (fun _ => by kernel_rfl) (by kernel_rfl : pick _ _ = some [(2, .int .i64 20)]) (trivial) ?_
      refine RP_pick [2] (by kernel_rfl : pick _ _ = some [(2, .int .i64 20)]) ?_
      refine RP_nil ?_
      refine n_then ?_
      refine W_ret ?_
      refine r_block <| r_then ?_
      refine ret_of (P := Tryd.prog) (fn := Tryd.f29) (m := [(2, .int .i64 20)]) (w := w1) (res1 rfl (rv_tmp rfl)) ?_
      -- return 1: .int .i64 20
      exact ⟨by (try rw [c3_5]); (try rw [c3_6]); rfl, st2.ext⟩
    ·
      have c3_6p := of_decide_eq_false c3_6
      refine W_seq ?_
      refine W_seq ?_
      refine W_region ?_
      refine RP_seg 3 [.p (.pointer (some ⟨g4, 2, none⟩)), .l 4 (.pointer (some ⟨g4, 2, none⟩)) (.bool r.op), .p (.bool r.op)] [1, 15] (by kernel_rfl) (fun _ => by kernel_rfl) (by kernel_rfl : pick _ _ = some [(1, .pointer (some ⟨g4, 0, none⟩)), (15, .bool r.op)]) ⟨ld1 st2 nagg_4 0 rfl rfl, trivial⟩ ?_
      rcases Bool.eq_false_or_eq_true (r.op) with c15_7 | c15_7
      ·
        refine RP_at (m' := [(1, .pointer (some ⟨g4, 0, none⟩)), (15, .bool true)]) (by rw [c15_7]) ?_
        refine RP_seg 5 [.p (.pointer (some ⟨g4, 1, none⟩)), .l 9 (.pointer (some ⟨g4, 1, none⟩)) (.string r.hi), .p (.bool (!((r.hi).toList == ((⟨#[]⟩ : ByteArray)).toList))), .p (.bool (!((r.hi).toList == ((⟨#[]⟩ : ByteArray)).toList))), .p (.bool (!((r.hi).toList == ((⟨#[]⟩ : ByteArray)).toList)))] [1, 12] (by kernel_rfl) (fun _ => by kernel_rfl) (by kernel_rfl : pick _ _ = some [(1, .pointer (some ⟨g4, 0, none⟩)), (12, .bool (!((r.hi).toList == ((⟨#[]⟩ : ByteArray)).toList)))]) ⟨ld1 st2 nagg_9 0 rfl rfl, trivial⟩ ?_
        refine RP_pick [1, 12] (by kernel_rfl : pick _ _ = some [(1, .pointer (some ⟨g4, 0, none⟩)), (12, .bool (!((r.hi).toList == ((⟨#[]⟩ : ByteArray)).toList)))]) ?_
        refine RP_nil ?_
        refine n_then ?_
        refine W_cond rfl (fun c12_8 => ?_) (fun c12_8 => ?_)
        ·
          refine W_skip ?_
          refine n_then ?_
          refine W_true' rfl c12_8 ?_
          refine W_seq ?_
          refine W_region ?_
          refine RP_seg 1 [.p (.int .i64 21)] [2] (by kernel_rfl) (fun _ => by kernel_rfl) (by kernel_rfl : pick _ _ = some [(2, .int .i64 21)]) (trivial) ?_
          refine RP_pick [2] (by kernel_rfl : pick _ _ = some [(2, .int .i64 21)]) ?_
          refine RP_nil ?_
          refine n_then ?_
          refine W_ret ?_
          refine r_block <| r_then ?_
          refine ret_of (P := Tryd.prog) (fn := Tryd.f29) (m := [(2, .int .i64 21)]) (w := w1) (res1 rfl (rv_tmp rfl)) ?_
          -- return 2: .int .i64 21
          exact ⟨by (try rw [c3_5]); (try rw [c3_6]); (try rw [c15_7]); (try rw [c12_8]); rfl, st2.ext⟩
        ·
          refine W_region ?_
          refine RP_seg 4 [.p (.pointer (some ⟨g4, 2, none⟩)), .l 4 (.pointer (some ⟨g4, 2, none⟩)) (.bool r.op), .p (.bool (!r.op)), .p (.bool (!r.op))] [1, 23] (by kernel_rfl) (fun _ => by kernel_rfl) (by kernel_rfl : pick _ _ = some [(1, .pointer (some ⟨g4, 0, none⟩)), (23, .bool (!r.op))]) ⟨ld1 st2 nagg_4 0 rfl rfl, trivial⟩ ?_
          have cn9 : (!r.op) = false := by rw [c15_7]; rfl
          refine RP_at (m' := [(1, .pointer (some ⟨g4, 0, none⟩)), (23, .bool false)]) (by rw [cn9]) ?_
          refine RP_seg 7 [.no, .no, .no, .no, .no, .p (.bool false), .p (.bool false)] [12] (by kernel_rfl) (fun _ => by kernel_rfl) (by kernel_rfl : pick _ _ = some [(12, .bool false)]) (trivial) ?_
          refine RP_pick [12] (by kernel_rfl : pick _ _ = some [(12, .bool false)]) ?_
          refine RP_nil ?_
          refine n_then ?_
          refine W_false rfl ?_
          refine W_skip ?_
          refine n_block ?_
          refine n_then ?_
          refine W_seq ?_
          refine W_region ?_
          refine RP_seg 1 [.p (.int .i64 0)] [2] (by kernel_rfl) (fun _ => by kernel_rfl) (by kernel_rfl : pick _ _ = some [(2, .int .i64 0)]) (trivial) ?_
          refine RP_pick [2] (by kernel_rfl : pick _ _ = some [(2, .int .i64 0)]) ?_
          refine RP_nil ?_
          refine n_then ?_
          refine W_ret ?_
          refine ret_of (P := Tryd.prog) (fn := Tryd.f29) (m := [(2, .int .i64 0)]) (w := w1) (res1 rfl (rv_tmp rfl)) ?_
          -- return 3: .int .i64 0
          exact ⟨by (try rw [c3_5]); (try rw [c3_6]); (try rw [c15_7]); (try rw [c12_8]); (try rw [cn9]); rfl, st2.ext⟩
      ·
        refine RP_at (m' := [(1, .pointer (some ⟨g4, 0, none⟩)), (15, .bool false)]) (by rw [c15_7]) ?_
        refine RP_seg 5 [.no, .no, .no, .p (.bool false), .p (.bool false)] [1, 12] (by kernel_rfl) (fun _ => by kernel_rfl) (by kernel_rfl : pick _ _ = some [(1, .pointer (some ⟨g4, 0, none⟩)), (12, .bool false)]) (trivial) ?_
        refine RP_pick [1, 12] (by kernel_rfl : pick _ _ = some [(1, .pointer (some ⟨g4, 0, none⟩)), (12, .bool false)]) ?_
        refine RP_nil ?_
        refine n_then ?_
        refine W_false rfl ?_
        refine W_region ?_
        refine RP_seg 4 [.p (.pointer (some ⟨g4, 2, none⟩)), .l 4 (.pointer (some ⟨g4, 2, none⟩)) (.bool r.op), .p (.bool (!r.op)), .p (.bool (!r.op))] [1, 23] (by kernel_rfl) (fun _ => by kernel_rfl) (by kernel_rfl : pick _ _ = some [(1, .pointer (some ⟨g4, 0, none⟩)), (23, .bool (!r.op))]) ⟨ld1 st2 nagg_4 0 rfl rfl, trivial⟩ ?_
        have cn10 : (!r.op) = true := by rw [c15_7]; rfl
        refine RP_at (m' := [(1, .pointer (some ⟨g4, 0, none⟩)), (23, .bool true)]) (by rw [cn10]) ?_
        refine RP_seg 7 [.p (.pointer (some ⟨g4, 0, none⟩)), .l 9 (.pointer (some ⟨g4, 0, none⟩)) (.string r.lo), .p (.pointer (some ⟨g4, 1, none⟩)), .l 9 (.pointer (some ⟨g4, 1, none⟩)) (.string r.hi), .p (.bool (!(Op.bytesLess (r.lo).toList (r.hi).toList || (r.lo).toList == (r.hi).toList))), .p (.bool (!(Op.bytesLess (r.lo).toList (r.hi).toList || (r.lo).toList == (r.hi).toList))), .p (.bool (!(Op.bytesLess (r.lo).toList (r.hi).toList || (r.lo).toList == (r.hi).toList)))] [12] (by kernel_rfl) (fun _ => by kernel_rfl) (by kernel_rfl : pick _ _ = some [(12, .bool (!(Op.bytesLess (r.lo).toList (r.hi).toList || (r.lo).toList == (r.hi).toList)))]) ⟨ld1 st2 nagg_9 0 rfl rfl, ld1 st2 nagg_9 0 rfl rfl, trivial⟩ ?_
        refine RP_pick [12] (by kernel_rfl : pick _ _ = some [(12, .bool (!(Op.bytesLess (r.lo).toList (r.hi).toList || (r.lo).toList == (r.hi).toList)))]) ?_
        refine RP_nil ?_
        refine n_then ?_
        refine W_cond rfl (fun c12_11 => ?_) (fun c12_11 => ?_)
        ·
          refine W_seq ?_
          refine W_region ?_
          refine RP_seg 1 [.p (.int .i64 21)] [2] (by kernel_rfl) (fun _ => by kernel_rfl) (by kernel_rfl : pick _ _ = some [(2, .int .i64 21)]) (trivial) ?_
          refine RP_pick [2] (by kernel_rfl : pick _ _ = some [(2, .int .i64 21)]) ?_
          refine RP_nil ?_
          refine n_then ?_
          refine W_ret ?_
          refine r_block <| r_then ?_
          refine ret_of (P := Tryd.prog) (fn := Tryd.f29) (m := [(2, .int .i64 21)]) (w := w1) (res1 rfl (rv_tmp rfl)) ?_
          -- return 4: .int .i64 21
          exact ⟨by (try rw [c3_5]); (try rw [c3_6]); (try rw [c15_7]); (try rw [cn10]); (try rw [c12_11]); rfl, st2.ext⟩
        ·
          refine W_skip ?_
          refine n_block ?_
          refine n_then ?_
          refine W_seq ?_
          refine W_region ?_
          refine RP_seg 1 [.p (.int .i64 0)] [2] (by kernel_rfl) (fun _ => by kernel_rfl) (by kernel_rfl : pick _ _ = some [(2, .int .i64 0)]) (trivial) ?_
          refine RP_pick [2] (by kernel_rfl : pick _ _ = some [(2, .int .i64 0)]) ?_
          refine RP_nil ?_
          refine n_then ?_
          refine W_ret ?_
          refine ret_of (P := Tryd.prog) (fn := Tryd.f29) (m := [(2, .int .i64 0)]) (w := w1) (res1 rfl (rv_tmp rfl)) ?_
          -- return 5: .int .i64 0
          exact ⟨by (try rw [c3_5]); (try rw [c3_6]); (try rw [c15_7]); (try rw [cn10]); (try rw [c12_11]); rfl, st2.ext⟩
def Rng.empty (r : Rng) : Bool := (r.check != 0) || (!r.op && (r.lo.toList == r.hi.toList))
theorem spanEmpty_cr (r : Rng) (w : World) : CR Tryd.prog 45 [r.v] w fun v w' => v = .bool r.empty ∧ Ext [] w w' := by
  have st := St.init w []
  unfold Rng.empty
  refine CR_enter Tryd.func45 rfl Tryd.ntmps45 rfl ?_
  refine W_seq ?_
  refine W_region ?_
  refine RP_e rfl (ef_box st rfl rfl) ?_
  rintro _ w1 ⟨g4, rfl, hg4, hg4', st2, hx3⟩
  replace st2 : St [] w w1 [(g4, 24, [.string r.lo, .string r.hi, .bool r.op])] := st2
  refine RP_seg 1 [.p (.bool false)] [1] (by kernel_rfl) (fun _ => by kernel_rfl) (by kernel_rfl : pick _ _ = some [(1, .pointer (some ⟨g4, 0, none⟩))]) (trivial) ?_
  refine RP_pick [1] (by kernel_rfl : pick _ _ = some [(1, .pointer (some ⟨g4, 0, none⟩))]) ?_
  refine RP_nil ?_
  refine n_then ?_
  refine W_seq ?_
  refine W_region ?_
  refine RP_seg 1 [.l 24 (.pointer (some ⟨g4, 0, none⟩)) (.agg #[.string r.lo, .string r.hi, .bool r.op])] [1, 3] (by kernel_rfl) (fun _ => by kernel_rfl) (by kernel_rfl : pick _ _ = some [(1, .pointer (some ⟨g4, 0, none⟩)), (3, .agg #[.string r.lo, .string r.hi, .bool r.op])]) ⟨ldN st2 agg_24 0 rfl rfl rfl, trivial⟩ ?_
  refine RP_e rfl (ef_call (k := 29) (args := [.agg #[.string r.lo, .string r.hi, .bool r.op]]) (spanCheck_cr r _) body_29 (by kernel_rfl)) ?_
  rintro _ w5 ⟨_, rfl, rfl, hx7⟩
  have st6 := st2.call0 hx7
  refine RP_seg 2 [.p (.bool (r.check != 0)), .p (.bool (r.check != 0))] [1, 6] (by kernel_rfl) (fun _ => by kernel_rfl) (by kernel_rfl : pick _ _ = some [(1, .pointer (some ⟨g4, 0, none⟩)), (6, .bool (r.check != 0))]) (trivial) ?_
  rcases Bool.eq_false_or_eq_true (r.check != 0) with c6_8 | c6_8
  ·
    refine RP_at (m' := [(1, .pointer (some ⟨g4, 0, none⟩)), (6, .bool true)]) (by rw [c6_8]) ?_
    refine RP_seg 12 [.no, .no, .no, .no, .no, .no, .no, .no, .no, .no, .p (.bool true), .p (.bool true)] [2] (by kernel_rfl) (fun _ => by kernel_rfl) (by kernel_rfl : pick _ _ = some [(2, .bool true)]) (trivial) ?_
    refine RP_pick [2] (by kernel_rfl : pick _ _ = some [(2, .bool true)]) ?_
    refine RP_nil ?_
    refine n_then ?_
    refine W_ret ?_
    refine ret_of (P := Tryd.prog) (fn := Tryd.f45) (m := [(2, .bool true)]) (w := w5) (res1 rfl (rv_tmp rfl)) ?_
    -- return 0: .bool true
    exact ⟨by (try rw [c6_8]); rfl, st6.ext⟩
  ·
    refine RP_at (m' := [(1, .pointer (some ⟨g4, 0, none⟩)), (6, .bool false)]) (by rw [c6_8]) ?_
    refine RP_seg 4 [.p (.pointer (some ⟨g4, 2, none⟩)), .l 4 (.pointer (some ⟨g4, 2, none⟩)) (.bool r.op), .p (.bool (!r.op)), .p (.bool (!r.op))] [1, 6, 10] (by kernel_rfl) (fun _ => by kernel_rfl) (by kernel_rfl : pick _ _ = some [(1, .pointer (some ⟨g4, 0, none⟩)), (6, .bool false), (10, .bool (!r.op))]) ⟨ld1 st6 nagg_4 0 rfl rfl, trivial⟩ ?_
    rcases Bool.eq_false_or_eq_true (!r.op) with c10_9 | c10_9
    ·
      refine RP_at (m' := [(1, .pointer (some ⟨g4, 0, none⟩)), (6, .bool false), (10, .bool true)]) (by rw [c10_9]) ?_
      refine RP_seg 8 [.p (.pointer (some ⟨g4, 0, none⟩)), .l 9 (.pointer (some ⟨g4, 0, none⟩)) (.string r.lo), .p (.pointer (some ⟨g4, 1, none⟩)), .l 9 (.pointer (some ⟨g4, 1, none⟩)) (.string r.hi), .p (.bool ((r.lo).toList == (r.hi).toList)), .p (.bool ((r.lo).toList == (r.hi).toList)), .p (.bool ((r.lo).toList == (r.hi).toList)), .p (.bool ((r.lo).toList == (r.hi).toList))] [2] (by kernel_rfl) (fun _ => by kernel_rfl) (by kernel_rfl : pick _ _ = some [(2, .bool ((r.lo).toList == (r.hi).toList))]) ⟨ld1 st6 nagg_9 0 rfl rfl, ld1 st6 nagg_9 0 rfl rfl, trivial⟩ ?_
      refine RP_pick [2] (by kernel_rfl : pick _ _ = some [(2, .bool ((r.lo).toList == (r.hi).toList))]) ?_
      refine RP_nil ?_
      refine n_then ?_
      refine W_ret ?_
      refine ret_of (P := Tryd.prog) (fn := Tryd.f45) (m := [(2, .bool ((r.lo).toList == (r.hi).toList))]) (w := w5) (res1 rfl (rv_tmp rfl)) ?_
      -- return 1: .bool ((r.lo).toList == (r.hi).toList)
      exact ⟨by (try rw [c6_8]); (try rw [c10_9]); rfl, st6.ext⟩
    ·
      refine RP_at (m' := [(1, .pointer (some ⟨g4, 0, none⟩)), (6, .bool false), (10, .bool false)]) (by rw [c10_9]) ?_
      refine RP_seg 8 [.no, .no, .no, .no, .no, .p (.bool false), .p (.bool false), .p (.bool false)] [2] (by kernel_rfl) (fun _ => by kernel_rfl) (by kernel_rfl : pick _ _ = some [(2, .bool false)]) (trivial) ?_
      refine RP_pick [2] (by kernel_rfl : pick _ _ = some [(2, .bool false)]) ?_
      refine RP_nil ?_
      refine n_then ?_
      refine W_ret ?_
      refine ret_of (P := Tryd.prog) (fn := Tryd.f45) (m := [(2, .bool false)]) (w := w5) (res1 rfl (rv_tmp rfl)) ?_
      -- return 2: .bool false
      exact ⟨by (try rw [c6_8]); (try rw [c10_9]); rfl, st6.ext⟩
def Rng.below (r : Rng) (k : ByteArray) : Bool := r.op || klt k r.hi
theorem spanBelow_cr (r : Rng) (k : ByteArray) (w : World) : CR Tryd.prog 110 [.string k, r.v] w fun v w' => v = .bool (r.below k) ∧ Ext [] w w' := by
  have st := St.init w []
  unfold Rng.below klt
  refine CR_enter Tryd.func110 rfl Tryd.ntmps110 rfl ?_
  refine W_seq ?_
  refine W_region ?_
  refine RP_e rfl (ef_box st rfl rfl) ?_
  rintro _ w1 ⟨g4, rfl, hg4, hg4', st2, hx3⟩
  replace st2 : St [] w w1 [(g4, 24, [.string r.lo, .string r.hi, .bool r.op])] := st2
  refine RP_seg 1 [.p (.bool false)] [0, 3] (by kernel_rfl) (fun _ => by kernel_rfl) (by kernel_rfl : pick _ _ = some [(0, .string k), (3, .pointer (some ⟨g4, 0, none⟩))]) (trivial) ?_
  refine RP_pick [0, 3] (by kernel_rfl : pick _ _ = some [(0, .string k), (3, .pointer (some ⟨g4, 0, none⟩))]) ?_
  refine RP_nil ?_
  refine n_then ?_
  refine W_seq ?_
  refine W_region ?_
  refine RP_seg 3 [.p (.pointer (some ⟨g4, 2, none⟩)), .l 4 (.pointer (some ⟨g4, 2, none⟩)) (.bool r.op), .p (.bool r.op)] [0, 3, 7] (by kernel_rfl) (fun _ => by kernel_rfl) (by kernel_rfl : pick _ _ = some [(0, .string k), (3, .pointer (some ⟨g4, 0, none⟩)), (7, .bool r.op)]) ⟨ld1 st2 nagg_4 0 rfl rfl, trivial⟩ ?_
  rcases Bool.eq_false_or_eq_true (r.op) with c7_5 | c7_5
  ·
    refine RP_at (m' := [(0, .string k), (3, .pointer (some ⟨g4, 0, none⟩)), (7, .bool true)]) (by rw [c7_5]) ?_
    refine RP_seg 6 [.no, .no, .no, .no, .p (.bool true), .p (.bool true)] [4] (by kernel_rfl) (fun _ => by kernel_rfl) (by kernel_rfl : pick _ _ = some [(4, .bool true)]) (trivial) ?_
    refine RP_pick [4] (by kernel_rfl : pick _ _ = some [(4, .bool true)]) ?_
    refine RP_nil ?_
    refine n_then ?_
    refine W_ret ?_
    refine ret_of (P := Tryd.prog) (fn := Tryd.f110) (m := [(4, .bool true)]) (w := w1) (res1 rfl (rv_tmp rfl)) ?_
    -- return 0: .bool true
    exact ⟨by (try rw [c7_5]); rfl, st2.ext⟩
  ·
    refine RP_at (m' := [(0, .string k), (3, .pointer (some ⟨g4, 0, none⟩)), (7, .bool false)]) (by rw [c7_5]) ?_
    refine RP_seg 6 [.p (.string k), .p (.pointer (some ⟨g4, 1, none⟩)), .l 9 (.pointer (some ⟨g4, 1, none⟩)) (.string r.hi), .p (.bool (Op.bytesLess (k).toList (r.hi).toList)), .p (.bool (Op.bytesLess (k).toList (r.hi).toList)), .p (.bool (Op.bytesLess (k).toList (r.hi).toList))] [4] (by kernel_rfl) (fun _ => by kernel_rfl) (by kernel_rfl : pick _ _ = some [(4, .bool (Op.bytesLess (k).toList (r.hi).toList))]) ⟨ld1 st2 nagg_9 0 rfl rfl, trivial⟩ ?_
    refine RP_pick [4] (by kernel_rfl : pick _ _ = some [(4, .bool (Op.bytesLess (k).toList (r.hi).toList))]) ?_
    refine RP_nil ?_
    refine n_then ?_
    refine W_ret ?_
    refine ret_of (P := Tryd.prog) (fn := Tryd.f110) (m := [(4, .bool (Op.bytesLess (k).toList (r.hi).toList))]) (w := w1) (res1 rfl (rv_tmp rfl)) ?_
    -- return 1: .bool (Op.bytesLess (k).toList (r.hi).toList)
    exact ⟨by (try rw [c7_5]); rfl, st2.ext⟩
def kle (a b : ByteArray) : Bool := Op.bytesLess a.toList b.toList || a.toList == b.toList
def Rng.holds (r : Rng) (k : ByteArray) : Bool := (r.check == 0) && (decide (((k.size : Nat) : Int) ≤ 16) && (kle r.lo k && r.below k))
theorem spanHolds_cr (r : Rng) (k : ByteArray) (w : World) : CR Tryd.prog 58 [r.v, .string k] w fun v w' => v = .bool (r.holds k) ∧ Ext [] w w' := by
  have st := St.init w []
  unfold Rng.holds kle
  refine CR_enter Tryd.func58 rfl Tryd.ntmps58 rfl ?_
  refine W_seq ?_
  refine W_region ?_
  refine RP_e rfl (ef_box st rfl rfl) ?_
  rintro _ w1 ⟨g4, rfl, hg4, hg4', st2, hx3⟩
  replace st2 : St [] w w1 [(g4, 24, [.string r.lo, .string r.hi, .bool r.op])] := st2
  refine RP_seg 1 [.p (.bool false)] [1, 2] (by kernel_rfl) (fun _ => by kernel_rfl) (by kernel_rfl : pick _ _ = some [(1, .string k), (2, .pointer (some ⟨g4, 0, none⟩))]) (trivial) ?_
  refine RP_pick [1, 2] (by kernel_rfl : pick _ _ = some [(1, .string k), (2, .pointer (some ⟨g4, 0, none⟩))]) ?_
  refine RP_nil ?_
  refine n_then ?_
  refine W_seq ?_
  refine W_region ?_
  refine RP_seg 1 [.l 24 (.pointer (some ⟨g4, 0, none⟩)) (.agg #[.string r.lo, .string r.hi, .bool r.op])] [1, 2, 5] (by kernel_rfl) (fun _ => by kernel_rfl) (by kernel_rfl : pick _ _ = some [(1, .string k), (2, .pointer (some ⟨g4, 0, none⟩)), (5, .agg #[.string r.lo, .string r.hi, .bool r.op])]) ⟨ldN st2 agg_24 0 rfl rfl rfl, trivial⟩ ?_
  refine RP_e rfl (ef_call (k := 29) (args := [.agg #[.string r.lo, .string r.hi, .bool r.op]]) (spanCheck_cr r _) body_29 (by kernel_rfl)) ?_
  rintro _ w5 ⟨_, rfl, rfl, hx7⟩
  have st6 := st2.call0 hx7
  refine RP_seg 2 [.p (.bool (r.check == 0)), .p (.bool (r.check == 0))] [1, 2, 8] (by kernel_rfl) (fun _ => by kernel_rfl) (by kernel_rfl : pick _ _ = some [(1, .string k), (2, .pointer (some ⟨g4, 0, none⟩)), (8, .bool (r.check == 0))]) (trivial) ?_
  rcases Bool.eq_false_or_eq_true (r.check == 0) with c8_8 | c8_8
  ·
    refine RP_at (m' := [(1, .string k), (2, .pointer (some ⟨g4, 0, none⟩)), (8, .bool true)]) (by rw [c8_8]) ?_
    refine RP_seg 5 [.p (.string k), .p (.int .i64 (((k).size : Nat) : Int)), .p (.bool (decide ((((k).size : Nat) : Int) ≤ 16))), .p (.bool (decide ((((k).size : Nat) : Int) ≤ 16))), .p (.bool (decide ((((k).size : Nat) : Int) ≤ 16)))] [1, 2, 13] (by kernel_rfl) (fun _ => by kernel_rfl) (by kernel_rfl : pick _ _ = some [(1, .string k), (2, .pointer (some ⟨g4, 0, none⟩)), (13, .bool (decide ((((k).size : Nat) : Int) ≤ 16)))]) (trivial) ?_
    rcases Bool.eq_false_or_eq_true (decide ((((k).size : Nat) : Int) ≤ 16)) with c13_9 | c13_9
    ·
      have c13_9p := of_decide_eq_true c13_9
      refine RP_at (m' := [(1, .string k), (2, .pointer (some ⟨g4, 0, none⟩)), (13, .bool true)]) (by rw [c13_9]) ?_
      refine RP_seg 6 [.p (.pointer (some ⟨g4, 0, none⟩)), .l 9 (.pointer (some ⟨g4, 0, none⟩)) (.string r.lo), .p (.string k), .p (.bool (Op.bytesLess (r.lo).toList (k).toList || (r.lo).toList == (k).toList)), .p (.bool (Op.bytesLess (r.lo).toList (k).toList || (r.lo).toList == (k).toList)), .p (.bool (Op.bytesLess (r.lo).toList (k).toList || (r.lo).toList == (k).toList))] [1, 2, 19] (by kernel_rfl) (fun _ => by kernel_rfl) (by kernel_rfl : pick _ _ = some [(1, .string k), (2, .pointer (some ⟨g4, 0, none⟩)), (19, .bool (Op.bytesLess (r.lo).toList (k).toList || (r.lo).toList == (k).toList))]) ⟨ld1 st6 nagg_9 0 rfl rfl, trivial⟩ ?_
      rcases Bool.eq_false_or_eq_true ((Op.bytesLess (r.lo).toList (k).toList || (r.lo).toList == (k).toList)) with c19_10 | c19_10
      ·
        refine RP_at (m' := [(1, .string k), (2, .pointer (some ⟨g4, 0, none⟩)), (19, .bool true)]) (by rw [c19_10]) ?_
        refine RP_seg 2 [.p (.string k), .l 24 (.pointer (some ⟨g4, 0, none⟩)) (.agg #[.string r.lo, .string r.hi, .bool r.op])] [19, 20, 21] (by kernel_rfl) (fun _ => by kernel_rfl) (by kernel_rfl : pick _ _ = some [(19, .bool true), (20, .string k), (21, .agg #[.string r.lo, .string r.hi, .bool r.op])]) ⟨ldN st6 agg_24 0 rfl rfl rfl, trivial⟩ ?_
        refine RP_ge rfl rfl (ef_call (k := 110) (args := [.string k, .agg #[.string r.lo, .string r.hi, .bool r.op]]) (spanBelow_cr r k _) body_110 (by kernel_rfl)) ?_
        rintro _ w11 ⟨_, rfl, rfl, hx13⟩
        have st12 := st6.call0 hx13
        refine RP_seg 2 [.p (.bool (r.below k)), .p (.bool (r.below k))] [4] (by kernel_rfl) (fun _ => by kernel_rfl) (by kernel_rfl : pick _ _ = some [(4, .bool (r.below k))]) (trivial) ?_
        refine RP_pick [4] (by kernel_rfl : pick _ _ = some [(4, .bool (r.below k))]) ?_
        refine RP_nil ?_
        refine n_then ?_
        refine W_ret ?_
        refine ret_of (P := Tryd.prog) (fn := Tryd.f58) (m := [(4, .bool (r.below k))]) (w := w11) (res1 rfl (rv_tmp rfl)) ?_
        -- return 0: .bool (r.below k)
        exact ⟨by (try rw [c8_8]); (try rw [c13_9]); (try rw [c19_10]); rfl, st12.ext⟩
      ·
        refine RP_at (m' := [(1, .string k), (2, .pointer (some ⟨g4, 0, none⟩)), (19, .bool false)]) (by rw [c19_10]) ?_
        refine RP_seg 2 [.no, .no] [19, 20, 21] (by kernel_rfl) (fun _ => by kernel_rfl) (by kernel_rfl : pick _ _ = some [(19, .bool false), (20, undef), (21, undef)]) (trivial) ?_
        refine RP_no rfl rfl (by decide) ?_
        refine RP_seg 2 [.p (.bool false), .p (.bool false)] [4] (by kernel_rfl) (fun _ => by kernel_rfl) (by kernel_rfl : pick _ _ = some [(4, .bool false)]) (trivial) ?_
        refine RP_pick [4] (by kernel_rfl : pick _ _ = some [(4, .bool false)]) ?_
        refine RP_nil ?_
        refine n_then ?_
        refine W_ret ?_
        refine ret_of (P := Tryd.prog) (fn := Tryd.f58) (m := [(4, .bool false)]) (w := w5) (res1 rfl (rv_tmp rfl)) ?_
        -- return 1: .bool false
        exact ⟨by (try rw [c8_8]); (try rw [c13_9]); (try rw [c19_10]); rfl, st6.ext⟩
    ·
      have c13_9p := of_decide_eq_false c13_9
      refine RP_at (m' := [(1, .string k), (2, .pointer (some ⟨g4, 0, none⟩)), (13, .bool false)]) (by rw [c13_9]) ?_
      refine RP_seg 8 [.no, .no, .no, .no, .p (.bool false), .p (.bool false), .no, .no] [19, 20, 21] (by kernel_rfl) (fun _ => by kernel_rfl) (by kernel_rfl : pick _ _ = some [(19, .bool false), (20, undef), (21, undef)]) (trivial) ?_
      refine RP_no rfl rfl (by decide) ?_
      refine RP_seg 2 [.p (.bool false), .p (.bool false)] [4] (by kernel_rfl) (fun _ => by kernel_rfl) (by kernel_rfl : pick _ _ = some [(4, .bool false)]) (trivial) ?_
      refine RP_pick [4] (by kernel_rfl : pick _ _ = some [(4, .bool false)]) ?_
      refine RP_nil ?_
      refine n_then ?_
      refine W_ret ?_
      refine ret_of (P := Tryd.prog) (fn := Tryd.f58) (m := [(4, .bool false)]) (w := w5) (res1 rfl (rv_tmp rfl)) ?_
      -- return 2: .bool false
      exact ⟨by (try rw [c8_8]); (try rw [c13_9]); rfl, st6.ext⟩
  ·
    refine RP_at (m' := [(1, .string k), (2, .pointer (some ⟨g4, 0, none⟩)), (8, .bool false)]) (by rw [c8_8]) ?_
    refine RP_seg 13 [.no, .no, .no, .p (.bool false), .p (.bool false), .no, .no, .no, .no, .p (.bool false), .p (.bool false), .no, .no] [19, 20, 21] (by kernel_rfl) (fun _ => by kernel_rfl) (by kernel_rfl : pick _ _ = some [(19, .bool false), (20, undef), (21, undef)]) (trivial) ?_
    refine RP_no rfl rfl (by decide) ?_
    refine RP_seg 2 [.p (.bool false), .p (.bool false)] [4] (by kernel_rfl) (fun _ => by kernel_rfl) (by kernel_rfl : pick _ _ = some [(4, .bool false)]) (trivial) ?_
    refine RP_pick [4] (by kernel_rfl : pick _ _ = some [(4, .bool false)]) ?_
    refine RP_nil ?_
    refine n_then ?_
    refine W_ret ?_
    refine ret_of (P := Tryd.prog) (fn := Tryd.f58) (m := [(4, .bool false)]) (w := w5) (res1 rfl (rv_tmp rfl)) ?_
    -- return 3: .bool false
    exact ⟨by (try rw [c8_8]); rfl, st6.ext⟩
def T.rankHi (t : T) (r : Rng) : Nat := cond r.op t.size (t.rank r.hi)
theorem storeRank_cr {w : World} {gs bm bt : Nat} {p : Option Addr} {node clock j : Int} {t : T} (r : Rng) (hS : Sto w gs bm bt p node clock j t) (hs : t.size ≤ 10000) :
    CR Tryd.prog 69 [.pointer (some ⟨gs, 0, none⟩), r.v] w fun v w' => v = .tuple #[.int .i64 (t.rank r.lo : Nat), .int .i64 (t.rankHi r : Nat)] ∧ Ext [] w w' := by
  have st := St.init w []
  unfold T.rankHi
  have hb := hS.blk
  have hTr := hS.tr
  have hT := hS.ist
  refine CR_enter Tryd.func69 rfl Tryd.ntmps69 rfl ?_
  refine W_seq ?_
  refine W_region ?_
  refine RP_e rfl (ef_box st rfl rfl) ?_
  rintro _ w1 ⟨g4, rfl, hg4, hg4', st2, hx3⟩
  replace st2 : St [] w w1 [(g4, 24, [.string r.lo, .string r.hi, .bool r.op])] := st2
  replace hTr := hTr.ext hx3 (by simp)
  replace hT := hT.to hx3 (NoNode.nil _)
  refine RP_seg 2 [.p (.int .i64 0), .p (.int .i64 0)] [0, 3] (by kernel_rfl) (fun _ => by kernel_rfl) (by kernel_rfl : pick _ _ = some [(0, .pointer (some ⟨gs, 0, none⟩)), (3, .pointer (some ⟨g4, 0, none⟩))]) (trivial) ?_
  refine RP_pick [0, 3] (by kernel_rfl : pick _ _ = some [(0, .pointer (some ⟨gs, 0, none⟩)), (3, .pointer (some ⟨g4, 0, none⟩))]) ?_
  refine RP_nil ?_
  refine n_then ?_
  refine W_seq ?_
  refine W_seq ?_
  refine W_region ?_
  refine RP_seg 2 [.p (.pointer (some ⟨g4, 2, none⟩)), .l 4 (.pointer (some ⟨g4, 2, none⟩)) (.bool r.op)] [0, 3, 7] (by kernel_rfl) (fun _ => by kernel_rfl) (by kernel_rfl : pick _ _ = some [(0, .pointer (some ⟨gs, 0, none⟩)), (3, .pointer (some ⟨g4, 0, none⟩)), (7, .bool r.op)]) ⟨ld1 st2 nagg_4 0 rfl rfl, trivial⟩ ?_
  refine RP_pick [0, 3, 7] (by kernel_rfl : pick _ _ = some [(0, .pointer (some ⟨gs, 0, none⟩)), (3, .pointer (some ⟨g4, 0, none⟩)), (7, .bool r.op)]) ?_
  refine RP_nil ?_
  refine n_then ?_
  refine W_cond rfl (fun c7_5 => ?_) (fun c7_5 => ?_)
  ·
    refine W_seq ?_
    -- region 2 draws: [(1, 0), (1, 1), (1, 2), (1, 3), (1, 4), (1, 5), (1, 7), (1, 8), (1, 9), (1, 10), (2, 6), (2, 11), (1, 12), (0, 13)]
    refine W_regionS (fun w' => Blk w' g4 24 [.string r.lo, .string r.hi, .bool r.op].toArray ∧ Blk w' gs 129 [.int .i64 node, .int .i64 clock, .pointer (some ⟨bm, 0, none⟩), .pointer (some ⟨bt, 0, none⟩)].toArray) [(1, 0), (1, 1), (1, 2), (1, 3), (1, 4), (1, 5), (1, 7), (1, 8), (1, 9), (1, 10), (2, 6), (2, 11), (1, 12), (0, 13)] 14 (by kernel_rfl) (by kernel_rfl) ?_
    have st6 := st2.drew
    replace hTr := hTr.drew
    replace hT := hT.drew
    refine RS_seg 10 [.p (.pointer (some ⟨gs, 0, none⟩)), .p (.pointer (some ⟨gs, 0, none⟩)), .p (.pointer (some ⟨gs, 3, none⟩)), .l 127 (.pointer (some ⟨gs, 3, none⟩)) (.pointer (some ⟨bt, 0, none⟩)), .p (.pointer (some ⟨g4, 0, none⟩)), .l 9 (.pointer (some ⟨g4, 0, none⟩)) (.string r.lo), .p (.pointer (some ⟨gs, 0, none⟩)), .p (.pointer (some ⟨gs, 0, none⟩)), .p (.pointer (some ⟨gs, 3, none⟩)), .l 127 (.pointer (some ⟨gs, 3, none⟩)) (.pointer (some ⟨bt, 0, none⟩))] [11, 13, 18] (by kernel_rfl) (by kernel_rfl) (⟨st6.get 0 rfl, hb.ext st6.ext List.not_mem_nil⟩) (by kernel_rfl) (fun _ => by kernel_rfl) (by kernel_rfl : pick _ _ = some [(11, .pointer (some ⟨bt, 0, none⟩)), (13, .string r.lo), (18, .pointer (some ⟨bt, 0, none⟩))]) (fun _ hS => ⟨ld1b (hS.2) nagg_127 rfl, ld1b (hS.1) nagg_9 rfl, ld1b (hS.2) nagg_127 rfl, trivial⟩) ?_
    refine RS_e rfl rfl (ef_call (k := 115) (args := [.pointer (some ⟨bt, 0, none⟩), .string r.lo]) (rank_cr r.lo hTr hT (by omega)) body_115 (by kernel_rfl)) ?_
    rintro _ _ ⟨_, rfl, rfl, rfl⟩
    refine ⟨⟨st6.get 0 rfl, hb.ext st6.ext List.not_mem_nil⟩, ?_⟩
    refine RS_e rfl rfl (ef_call (k := 111) (args := [.pointer (some ⟨bt, 0, none⟩)]) (len_cr hTr hT) body_111 (by kernel_rfl)) ?_
    rintro _ _ ⟨_, rfl, rfl, rfl⟩
    refine ⟨⟨st6.get 0 rfl, hb.ext st6.ext List.not_mem_nil⟩, ?_⟩
    refine RS_seg 1 [.p (.int .i64 ((t.rank r.lo : Nat) : Int))] [4, 19] (by kernel_rfl) (by kernel_rfl) (⟨st6.get 0 rfl, hb.ext st6.ext List.not_mem_nil⟩) (by kernel_rfl) (fun _ => by kernel_rfl) (by kernel_rfl : pick _ _ = some [(4, .int .i64 ((t.rank r.lo : Nat) : Int)), (19, .int .i64 ((t.size : Nat) : Int))]) (fun _ hS => trivial) ?_
    refine RS_segP 1 [.p (.int .i64 ((t.size : Nat) : Int))] [4, 5] (by kernel_rfl) (by kernel_rfl) (by kernel_rfl) (fun _ => by kernel_rfl) (by kernel_rfl : pick _ _ = some [(4, .int .i64 ((t.rank r.lo : Nat) : Int)), (5, .int .i64 ((t.size : Nat) : Int))]) (fun _ => trivial) ?_
    refine RS_pick [4, 5] (by kernel_rfl : pick _ _ = some [(4, .int .i64 ((t.rank r.lo : Nat) : Int)), (5, .int .i64 ((t.size : Nat) : Int))]) ?_
    refine RS_nil ?_
    refine n_then ?_
    refine W_ret ?_
    refine r_then ?_
    refine ret_of (P := Tryd.prog) (fn := Tryd.f69) (m := [(4, .int .i64 ((t.rank r.lo : Nat) : Int)), (5, .int .i64 ((t.size : Nat) : Int))]) (w := w1.drew) (res2 rfl (rv_tmp rfl) (rv_tmp rfl)) ?_
    -- return 0: .int .i64 ((t.rank r.lo : Nat) : Int), .int .i64 ((t.size : Nat) : Int)
    exact ⟨by (try rw [c7_5]); rfl, st6.ext⟩
  ·
    refine W_skip ?_
    refine n_then ?_
    refine W_seq ?_
    -- region 3 draws: [(1, 0), (1, 1), (1, 2), (1, 3), (1, 4), (1, 5), (1, 7), (1, 8), (1, 9), (1, 10), (1, 11), (1, 12), (2, 6), (2, 13), (1, 14), (0, 15)]
    refine W_regionS (fun w' => Blk w' g4 24 [.string r.lo, .string r.hi, .bool r.op].toArray ∧ Blk w' gs 129 [.int .i64 node, .int .i64 clock, .pointer (some ⟨bm, 0, none⟩), .pointer (some ⟨bt, 0, none⟩)].toArray) [(1, 0), (1, 1), (1, 2), (1, 3), (1, 4), (1, 5), (1, 7), (1, 8), (1, 9), (1, 10), (1, 11), (1, 12), (2, 6), (2, 13), (1, 14), (0, 15)] 16 (by kernel_rfl) (by kernel_rfl) ?_
    have st13 := st2.drew
    replace hTr := hTr.drew
    replace hT := hT.drew
    refine RS_seg 12 [.p (.pointer (some ⟨gs, 0, none⟩)), .p (.pointer (some ⟨gs, 0, none⟩)), .p (.pointer (some ⟨gs, 3, none⟩)), .l 127 (.pointer (some ⟨gs, 3, none⟩)) (.pointer (some ⟨bt, 0, none⟩)), .p (.pointer (some ⟨g4, 0, none⟩)), .l 9 (.pointer (some ⟨g4, 0, none⟩)) (.string r.lo), .p (.pointer (some ⟨gs, 0, none⟩)), .p (.pointer (some ⟨gs, 0, none⟩)), .p (.pointer (some ⟨gs, 3, none⟩)), .l 127 (.pointer (some ⟨gs, 3, none⟩)) (.pointer (some ⟨bt, 0, none⟩)), .p (.pointer (some ⟨g4, 1, none⟩)), .l 9 (.pointer (some ⟨g4, 1, none⟩)) (.string r.hi)] [23, 25, 30, 32] (by kernel_rfl) (by kernel_rfl) (⟨st13.get 0 rfl, hb.ext st13.ext List.not_mem_nil⟩) (by kernel_rfl) (fun _ => by kernel_rfl) (by kernel_rfl : pick _ _ = some [(23, .pointer (some ⟨bt, 0, none⟩)), (25, .string r.lo), (30, .pointer (some ⟨bt, 0, none⟩)), (32, .string r.hi)]) (fun _ hS => ⟨ld1b (hS.2) nagg_127 rfl, ld1b (hS.1) nagg_9 rfl, ld1b (hS.2) nagg_127 rfl, ld1b (hS.1) nagg_9 rfl, trivial⟩) ?_
    refine RS_e rfl rfl (ef_call (k := 115) (args := [.pointer (some ⟨bt, 0, none⟩), .string r.lo]) (rank_cr r.lo hTr hT (by omega)) body_115 (by kernel_rfl)) ?_
    rintro _ _ ⟨_, rfl, rfl, rfl⟩
    refine ⟨⟨st13.get 0 rfl, hb.ext st13.ext List.not_mem_nil⟩, ?_⟩
    refine RS_e rfl rfl (ef_call (k := 115) (args := [.pointer (some ⟨bt, 0, none⟩), .string r.hi]) (rank_cr r.hi hTr hT (by omega)) body_115 (by kernel_rfl)) ?_
    rintro _ _ ⟨_, rfl, rfl, rfl⟩
    refine ⟨⟨st13.get 0 rfl, hb.ext st13.ext List.not_mem_nil⟩, ?_⟩
    refine RS_seg 1 [.p (.int .i64 ((t.rank r.lo : Nat) : Int))] [4, 33] (by kernel_rfl) (by kernel_rfl) (⟨st13.get 0 rfl, hb.ext st13.ext List.not_mem_nil⟩) (by kernel_rfl) (fun _ => by kernel_rfl) (by kernel_rfl : pick _ _ = some [(4, .int .i64 ((t.rank r.lo : Nat) : Int)), (33, .int .i64 ((t.rank r.hi : Nat) : Int))]) (fun _ hS => trivial) ?_
    refine RS_segP 1 [.p (.int .i64 ((t.rank r.hi : Nat) : Int))] [4, 5] (by kernel_rfl) (by kernel_rfl) (by kernel_rfl) (fun _ => by kernel_rfl) (by kernel_rfl : pick _ _ = some [(4, .int .i64 ((t.rank r.lo : Nat) : Int)), (5, .int .i64 ((t.rank r.hi : Nat) : Int))]) (fun _ => trivial) ?_
    refine RS_pick [4, 5] (by kernel_rfl : pick _ _ = some [(4, .int .i64 ((t.rank r.lo : Nat) : Int)), (5, .int .i64 ((t.rank r.hi : Nat) : Int))]) ?_
    refine RS_nil ?_
    refine n_then ?_
    refine W_ret ?_
    refine ret_of (P := Tryd.prog) (fn := Tryd.f69) (m := [(4, .int .i64 ((t.rank r.lo : Nat) : Int)), (5, .int .i64 ((t.rank r.hi : Nat) : Int))]) (w := w1.drew) (res2 rfl (rv_tmp rfl) (rv_tmp rfl)) ?_
    -- return 1: .int .i64 ((t.rank r.lo : Nat) : Int), .int .i64 ((t.rank r.hi : Nat) : Int)
    exact ⟨by (try rw [c7_5]); rfl, st13.ext⟩
def T.foldR (t : T) (r : Rng) : Tal := t.fold (t.rank r.lo : Nat) (t.rankHi r : Nat)
def T.foldRJ (t : T) (r : Rng) : Nat := t.foldJ (t.rank r.lo : Nat) (t.rankHi r : Nat)
theorem T.rankHi_le (t : T) (r : Rng) : t.rankHi r ≤ t.size := by
  unfold T.rankHi; cases r.op
  · exact T.rank_le _ _
  · exact Nat.le_refl _
theorem storeFold_cr {w : World} {gs bm bt : Nat} {p : Option Addr} {node clock j : Int} {t : T} (r : Rng) (hS : Sto w gs bm bt p node clock j t) (hs : t.size ≤ 10000) :
    CR Tryd.prog 26 [.pointer (some ⟨gs, 0, none⟩), r.v] w fun v w' => v = .tuple #[(cond (r.check != 0) Tal.zero (t.foldR r)).v, .int .i64 r.check] ∧ Sto w' gs bm bt p node clock (cond (r.check != 0) j (addj j (t.foldRJ r))) t ∧ Ext [bm] w w' := by
  have st := (St.init w [bm]).add hS.tr.m (by simp)
  have hb := hS.blk
  have htb := hS.tr.t
  have hT := hS.ist
  have hgn : gs ∉ [bm] := by simpa using (hb.ne_ hS.tr.m (by decide))
  have hbn : bt ∉ [bm] := by simpa using hS.tr.ne
  have hno := NoNode.meter hS.tr.m
  have hlt := hS.tr.m.lt
  have hrl := T.rank_le r.lo t
  have hrh := T.rankHi_le t r
  refine CR_enter Tryd.func26 rfl Tryd.ntmps26 rfl ?_
  refine W_seq ?_
  refine W_region ?_
  refine RP_e rfl (ef_box st rfl rfl) ?_
  rintro _ w1 ⟨g4, rfl, hg4, hg4', st2, hx3⟩
  replace st2 : St [bm] w w1 [(g4, 24, [.string r.lo, .string r.hi, .bool r.op]), (bm, 205, [.int .i64 j])] := st2
  refine RP_e rfl (ef_alloc st2 zero_32 rfl) ?_
  rintro _ w5 ⟨g8, rfl, hg8, hg8', st6, hx7⟩
  replace st6 : St [bm] w w5 [(g8, 32, [.int .i64 0, .int .u64 0, .int .u64 0]), (g4, 24, [.string r.lo, .string r.hi, .bool r.op]), (bm, 205, [.int .i64 j])] := st6
  refine RP_seg 1 [.p (.int .i64 0)] [0, 3, 4] (by kernel_rfl) (fun _ => by kernel_rfl) (by kernel_rfl : pick _ _ = some [(0, .pointer (some ⟨gs, 0, none⟩)), (3, .pointer (some ⟨g4, 0, none⟩)), (4, .pointer (some ⟨g8, 0, none⟩))]) (trivial) ?_
  refine RP_pick [0, 3, 4] (by kernel_rfl : pick _ _ = some [(0, .pointer (some ⟨gs, 0, none⟩)), (3, .pointer (some ⟨g4, 0, none⟩)), (4, .pointer (some ⟨g8, 0, none⟩))]) ?_
  refine RP_nil ?_
  refine n_then ?_
  refine W_seq ?_
  refine W_seq ?_
  refine W_region ?_
  refine RP_seg 1 [.l 24 (.pointer (some ⟨g4, 0, none⟩)) (.agg #[.string r.lo, .string r.hi, .bool r.op])] [0, 3, 4, 7] (by kernel_rfl) (fun _ => by kernel_rfl) (by kernel_rfl : pick _ _ = some [(0, .pointer (some ⟨gs, 0, none⟩)), (3, .pointer (some ⟨g4, 0, none⟩)), (4, .pointer (some ⟨g8, 0, none⟩)), (7, .agg #[.string r.lo, .string r.hi, .bool r.op])]) ⟨ldN st6 agg_24 1 rfl rfl rfl, trivial⟩ ?_
  refine RP_e rfl (ef_call (k := 29) (args := [.agg #[.string r.lo, .string r.hi, .bool r.op]]) (spanCheck_cr r _) body_29 (by kernel_rfl)) ?_
  rintro _ w9 ⟨_, rfl, rfl, hx11⟩
  have st10 := st6.call0 hx11
  refine RP_seg 1 [.p (.int .i64 r.check)] [0, 3, 4, 6] (by kernel_rfl) (fun _ => by kernel_rfl) (by kernel_rfl : pick _ _ = some [(0, .pointer (some ⟨gs, 0, none⟩)), (3, .pointer (some ⟨g4, 0, none⟩)), (4, .pointer (some ⟨g8, 0, none⟩)), (6, .int .i64 r.check)]) (trivial) ?_
  refine RP_pick [0, 3, 4, 6] (by kernel_rfl : pick _ _ = some [(0, .pointer (some ⟨gs, 0, none⟩)), (3, .pointer (some ⟨g4, 0, none⟩)), (4, .pointer (some ⟨g8, 0, none⟩)), (6, .int .i64 r.check)]) ?_
  refine RP_nil ?_
  refine n_then ?_
  refine W_seq ?_
  refine W_region ?_
  refine RP_seg 2 [.p (.int .i64 r.check), .p (.bool (r.check != 0))] [0, 3, 4, 6, 10] (by kernel_rfl) (fun _ => by kernel_rfl) (by kernel_rfl : pick _ _ = some [(0, .pointer (some ⟨gs, 0, none⟩)), (3, .pointer (some ⟨g4, 0, none⟩)), (4, .pointer (some ⟨g8, 0, none⟩)), (6, .int .i64 r.check), (10, .bool (r.check != 0))]) (trivial) ?_
  refine RP_pick [0, 3, 4, 6, 10] (by kernel_rfl : pick _ _ = some [(0, .pointer (some ⟨gs, 0, none⟩)), (3, .pointer (some ⟨g4, 0, none⟩)), (4, .pointer (some ⟨g8, 0, none⟩)), (6, .int .i64 r.check), (10, .bool (r.check != 0))]) ?_
  refine RP_nil ?_
  refine n_then ?_
  refine W_cond rfl (fun c10_12 => ?_) (fun c10_12 => ?_)
  ·
    refine W_seq ?_
    refine W_region ?_
    refine RP_seg 2 [.p (.agg #[.int .i64 0, .int .u64 0, .int .u64 0]), .p (.int .i64 r.check)] [4, 11, 12] (by kernel_rfl) (fun _ => by kernel_rfl) (by kernel_rfl : pick _ _ = some [(4, .pointer (some ⟨g8, 0, none⟩)), (11, .agg #[.int .i64 0, .int .u64 0, .int .u64 0]), (12, .int .i64 r.check)]) (trivial) ?_
    refine RP_e rfl (ef_store st10 rfl rfl rfl size_32 0 rfl rfl rfl rfl (.inr hg8)) ?_
    rintro _ w13 ⟨rfl, st14, hx15⟩
    replace st14 : St [bm] w w13 [(g8, 32, [.int .i64 0, .int .u64 0, .int .u64 0]), (g4, 24, [.string r.lo, .string r.hi, .bool r.op]), (bm, 205, [.int .i64 j])] := st14
    refine RP_seg 1 [.p (.int .i64 r.check)] [4, 5] (by kernel_rfl) (fun _ => by kernel_rfl) (by kernel_rfl : pick _ _ = some [(4, .pointer (some ⟨g8, 0, none⟩)), (5, .int .i64 r.check)]) (trivial) ?_
    refine RP_pick [4, 5] (by kernel_rfl : pick _ _ = some [(4, .pointer (some ⟨g8, 0, none⟩)), (5, .int .i64 r.check)]) ?_
    refine RP_nil ?_
    refine n_then ?_
    refine W_ret ?_
    refine r_then ?_
    refine ret_of (P := Tryd.prog) (fn := Tryd.f26) (m := [(4, .pointer (some ⟨g8, 0, none⟩)), (5, .int .i64 r.check)]) (w := w13) (res2 rfl (rv_cell rfl (by simpa [Instr.loadAt, Instr.sureAddr] using (ldN st14 agg_32 0 rfl rfl rfl))) (rv_tmp rfl)) ?_
    -- return 0: .agg #[.int .i64 0, .int .u64 0, .int .u64 0], .int .i64 r.check
    exact ⟨by (try rw [c10_12]);  rfl, ⟨hb.ext st14.ext hgn, ⟨htb.ext st14.ext hbn, by (try rw [c10_12]); exact st14.get 2 rfl⟩, hT.to st14.ext hno⟩, st14.ext⟩
  ·
    refine W_skip ?_
    refine n_then ?_
    refine W_seq ?_
    -- region 4 draws: [(1, 0), (1, 1), (1, 2), (1, 3), (1, 4), (1, 5), (2, 6), (1, 7), (1, 8), (2, 9), (3, 10), (0, 11)]
    refine W_regionS (fun w' => Blk w' g4 24 [.string r.lo, .string r.hi, .bool r.op].toArray ∧ Blk w' gs 129 [.int .i64 node, .int .i64 clock, .pointer (some ⟨bm, 0, none⟩), .pointer (some ⟨bt, 0, none⟩)].toArray) [(1, 0), (1, 1), (1, 2), (1, 3), (1, 4), (1, 5), (2, 6), (1, 7), (1, 8), (2, 9), (3, 10), (0, 11)] 12 (by kernel_rfl) (by kernel_rfl) ?_
    have st16 := st10.drew
    refine RS_seg 6 [.p (.pointer (some ⟨gs, 0, none⟩)), .p (.pointer (some ⟨gs, 0, none⟩)), .p (.pointer (some ⟨gs, 3, none⟩)), .l 127 (.pointer (some ⟨gs, 3, none⟩)) (.pointer (some ⟨bt, 0, none⟩)), .p (.pointer (some ⟨gs, 0, none⟩)), .l 24 (.pointer (some ⟨g4, 0, none⟩)) (.agg #[.string r.lo, .string r.hi, .bool r.op])] [4, 16, 17, 18] (by kernel_rfl) (by kernel_rfl) (⟨st16.get 1 rfl, hb.ext st16.ext hgn⟩) (by kernel_rfl) (fun _ => by kernel_rfl) (by kernel_rfl : pick _ _ = some [(4, .pointer (some ⟨g8, 0, none⟩)), (16, .pointer (some ⟨bt, 0, none⟩)), (17, .pointer (some ⟨gs, 0, none⟩)), (18, .agg #[.string r.lo, .string r.hi, .bool r.op])]) (fun _ hS => ⟨ld1b (hS.2) nagg_127 rfl, ldNb (hS.1) agg_24 rfl rfl, trivial⟩) ?_
    refine RS_e rfl rfl (ef_call (k := 69) (args := [.pointer (some ⟨gs, 0, none⟩), .agg #[.string r.lo, .string r.hi, .bool r.op]]) (storeRank_cr (p := p) (j := j) r ⟨hb.ext st16.ext hgn, ⟨htb.ext st16.ext hbn, st16.get 2 rfl⟩, hT.to st16.ext hno⟩ hs) body_69 (by kernel_rfl)) ?_
    rintro _ w17 ⟨_, rfl, rfl, hx19⟩
    have st18 := st16.call0 hx19
    refine ⟨⟨st18.get 1 rfl, hb.ext st18.ext hgn⟩, ?_⟩
    refine RS_seg 2 [.p (.int .i64 ((t.rank r.lo : Nat) : Int)), .p (.int .i64 ((t.rankHi r : Nat) : Int))] [4, 16, 20, 21] (by kernel_rfl) (by kernel_rfl) (⟨st18.get 1 rfl, hb.ext st18.ext hgn⟩) (by kernel_rfl) (fun _ => by kernel_rfl) (by kernel_rfl : pick _ _ = some [(4, .pointer (some ⟨g8, 0, none⟩)), (16, .pointer (some ⟨bt, 0, none⟩)), (20, .int .i64 ((t.rank r.lo : Nat) : Int)), (21, .int .i64 ((t.rankHi r : Nat) : Int))]) (fun _ hS => trivial) ?_
    refine RS_e rfl rfl (ef_call (k := 68) (args := [.pointer (some ⟨bt, 0, none⟩), .int .i64 ((t.rank r.lo : Nat) : Int), .int .i64 ((t.rankHi r : Nat) : Int)]) (fold_cr (j := j) (p := p) ((t.rank r.lo : Nat) : Int) ((t.rankHi r : Nat) : Int) ⟨htb.ext st18.ext hbn, st18.get 2 rfl⟩ (hT.to st18.ext hno) (by omega) (by omega) hs) body_68 (by kernel_rfl)) ?_
    rintro _ w20 ⟨_, rfl, rfl, hTr2, hx22⟩
    have st21 := st18.turned 2 rfl (.inl (by simp)) hTr2.m hx22
    have st23 : St [bm] w w20 [(g8, 32, [.int .i64 0, .int .u64 0, .int .u64 0]), (g4, 24, [.string r.lo, .string r.hi, .bool r.op]), (bm, 205, [.int .i64 (addj j (t.foldRJ r))])] := st21
    refine ⟨⟨st23.get 1 rfl, hb.ext st23.ext hgn⟩, ?_⟩
    refine RS_f rfl rfl (ef_store st23 rfl rfl rfl size_32 0 rfl rfl rfl rfl (.inr hg8)) ?_
    rintro _ w24 ⟨rfl, st25, hx26⟩
    replace st25 : St [bm] w w24 [(g8, 32, [.int .i64 ((t.foldR r).k), .int .u64 ((t.foldR r).a), .int .u64 ((t.foldR r).b)]), (g4, 24, [.string r.lo, .string r.hi, .bool r.op]), (bm, 205, [.int .i64 (addj j (t.foldRJ r))])] := st25
    refine RS_segP 1 [.p (.int .i64 0)] [4, 5] (by kernel_rfl) (by kernel_rfl) (by kernel_rfl) (fun _ => by kernel_rfl) (by kernel_rfl : pick _ _ = some [(4, .pointer (some ⟨g8, 0, none⟩)), (5, .int .i64 0)]) (fun _ => trivial) ?_
    refine RS_pick [4, 5] (by kernel_rfl : pick _ _ = some [(4, .pointer (some ⟨g8, 0, none⟩)), (5, .int .i64 0)]) ?_
    refine RS_nil ?_
    refine n_then ?_
    refine W_ret ?_
    have hz : r.check = 0 := by simpa using c10_12
    refine ret_of (P := Tryd.prog) (fn := Tryd.f26) (m := [(4, .pointer (some ⟨g8, 0, none⟩)), (5, .int .i64 0)]) (w := w24) (res2 rfl (rv_cell rfl (by simpa [Instr.loadAt, Instr.sureAddr] using (ldN st25 agg_32 0 rfl rfl rfl))) (rv_tmp rfl)) ?_
    -- return 1: .agg #[.int .i64 ((t.foldR r).k), .int .u64 ((t.foldR r).a), .int .u64 ((t.foldR r).b)], .int .i64 0
    exact ⟨by (try rw [c10_12]); rw [hz]; rfl, ⟨hb.ext st25.ext hgn, ⟨htb.ext st25.ext hbn, by (try rw [c10_12]); exact st25.get 2 rfl⟩, hT.to st25.ext hno⟩, st25.ext⟩
end Go.Proofs.YtcopemgkjbaaeaaDoor
