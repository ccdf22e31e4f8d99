/-
  ref04: lane, words, Of, Add; ref05.Of, Join.
-/
import Derived.Test.YtcopemgkjbaaeaaDoorWd0
namespace Go.Proofs.YtcopemgkjbaaeaaDoor
set_option linter.all false
open Go.RowKit

theorem idxW : IdxT Tryd.prog 222 28 1 := ⟨by kernel_rfl, size_28⟩
theorem appW : AppT Tryd.prog 222 28 1 8 := ⟨by kernel_rfl, Tryd.t28, .int .u64 0, by kernel_rfl, by kernel_rfl, rfl, rfl, rfl, by decide⟩

theorem lane29_cr {w : World} {b : Option Addr} {c : Nat} (x f : Int) (L : List Int) (hin : InS w b (wordCells L)) (hL : L.length < 100000000) :
    CR Tryd.prog 157 [.int .u64 x, .int .u64 f, .int .i64 29, .slice b L.length c] w fun v w' => v = .int .u64 (L.foldl (stirL f 29) x) ∧ w = w' := by
  have st := St.init w []
  refine CR_enter Tryd.func157 rfl Tryd.ntmps157 rfl ?_
  refine W_seq ?_
  refine W_region ?_
  refine RP_seg 1 [.p (.int .u64 0)] [0, 1, 2, 3] (by kernel_rfl) (fun _ => by kernel_rfl) (by kernel_rfl : pick _ _ = some [(0, .int .u64 x), (1, .int .u64 f), (2, .int .i64 29), (3, .slice b L.length c)]) (trivial) ?_
  refine RP_pick [0, 1, 2, 3] (by kernel_rfl : pick _ _ = some [(0, .int .u64 x), (1, .int .u64 f), (2, .int .i64 29), (3, .slice b L.length c)]) ?_
  refine RP_nil ?_
  refine n_then ?_
  refine W_seq ?_
  refine W_seq ?_
  refine W_region ?_
  refine RP_seg 3 [.p (.slice b L.length c), .p (.int .i64 ((L.length : Nat) : Int)), .p (.int .i64 0)] [0, 1, 2, 11, 12, 13] (by kernel_rfl) (fun _ => by kernel_rfl) (by kernel_rfl : pick _ _ = some [(0, .int .u64 x), (1, .int .u64 f), (2, .int .i64 29), (11, .slice b L.length c), (12, .int .i64 ((L.length : Nat) : Int)), (13, .int .i64 0)]) (trivial) ?_
  refine RP_pick [0, 1, 2, 11, 12, 13] (by kernel_rfl : pick _ _ = some [(0, .int .u64 x), (1, .int .u64 f), (2, .int .i64 29), (11, .slice b L.length c), (12, .int .i64 ((L.length : Nat) : Int)), (13, .int .i64 0)]) ?_
  refine RP_nil ?_
  refine n_then ?_
  refine W_block ?_
  refine W_loop (fun k_ m_ w_ => ∃ (i : Nat) (y : Int), L.length - i = k_ ∧ m_ = [(0, .int .u64 y), (1, .int .u64 f), (2, .int .i64 29), (11, .slice b L.length c), (12, .int .i64 ((L.length : Nat) : Int)), (13, .int .i64 ((i : Nat) : Int))] ∧ w = w_ ∧ i ≤ L.length ∧ (L.drop i).foldl (stirL f 29) y = L.foldl (stirL f 29) x) ⟨0, x, rfl, rfl, rfl, Nat.zero_le _, rfl⟩ ?_
  rintro _ _ _ ⟨i, y, rfl, rfl, rfl, hil, hy⟩
  refine W_seq ?_
  refine W_region ?_
  refine RP_seg 1 [.p (.bool (decide (((i : Nat) : Int) < ((L.length : Nat) : Int))))] [0, 1, 2, 11, 12, 13, 14] (by kernel_rfl) (fun _ => by kernel_rfl) (by kernel_rfl : pick _ _ = some [(0, .int .u64 y), (1, .int .u64 f), (2, .int .i64 29), (11, .slice b L.length c), (12, .int .i64 ((L.length : Nat) : Int)), (13, .int .i64 ((i : Nat) : Int)), (14, .bool (decide (((i : Nat) : Int) < ((L.length : Nat) : Int))))]) (trivial) ?_
  refine RP_pick [0, 1, 2, 11, 12, 13, 14] (by kernel_rfl : pick _ _ = some [(0, .int .u64 y), (1, .int .u64 f), (2, .int .i64 29), (11, .slice b L.length c), (12, .int .i64 ((L.length : Nat) : Int)), (13, .int .i64 ((i : Nat) : Int)), (14, .bool (decide (((i : Nat) : Int) < ((L.length : Nat) : Int))))]) ?_
  refine RP_nil ?_
  refine n_then ?_
  refine W_seq ?_
  refine W_cond rfl (fun c14_3 => ?_) (fun c14_3 => ?_)
  ·
    have c14_3p := of_decide_eq_true c14_3
    refine W_skip ?_
    refine n_then ?_
    refine W_seq ?_
    refine W_block ?_
    refine W_seq ?_
    refine W_region ?_
    have hlt : i < L.length := by omega
    obtain ⟨z, hz⟩ : ∃ z, L[i]? = some z := ⟨L[i], by simp [hlt]⟩
    have hbs := hin.some_ (by rw [wordCells_len]; omega)
    refine RP_q rfl (v := .pointer (some ⟨(sp b), so b + i * 1, none⟩)) (ev_indexI idxW rfl rfl hbs hlt) ?_
    refine RP_seg 2 [.l 28 (.pointer (some ⟨(sp b), so b + i * 1, none⟩)) (.int .u64 z), .p (.int .u64 z)] [0, 1, 2, 10, 11, 12, 13] (by kernel_rfl) (fun _ => by kernel_rfl) (by kernel_rfl : pick _ _ = some [(0, .int .u64 y), (1, .int .u64 f), (2, .int .i64 29), (10, .int .u64 z), (11, .slice b L.length c), (12, .int .i64 ((L.length : Nat) : Int)), (13, .int .i64 ((i : Nat) : Int))]) ⟨InS.load1 nagg_28 (hin) (wordCells_at hz), trivial⟩ ?_
    refine RP_pick [0, 1, 2, 10, 11, 12, 13] (by kernel_rfl : pick _ _ = some [(0, .int .u64 y), (1, .int .u64 f), (2, .int .i64 29), (10, .int .u64 z), (11, .slice b L.length c), (12, .int .i64 ((L.length : Nat) : Int)), (13, .int .i64 ((i : Nat) : Int))]) ?_
    refine RP_nil ?_
    refine n_then ?_
    refine W_seq ?_
    refine W_region ?_
    refine RP_seg 4 [.p (.int .u64 y), .p (.int .u64 z), .p (.int .u64 (bits .xor .u64 y z)), .p (.int .u64 (bits .xor .u64 y z))] [0, 1, 2, 11, 12, 13] (by kernel_rfl) (fun _ => by kernel_rfl) (by kernel_rfl : pick _ _ = some [(0, .int .u64 (bits .xor .u64 y z)), (1, .int .u64 f), (2, .int .i64 29), (11, .slice b L.length c), (12, .int .i64 ((L.length : Nat) : Int)), (13, .int .i64 ((i : Nat) : Int))]) (trivial) ?_
    refine RP_pick [0, 1, 2, 11, 12, 13] (by kernel_rfl : pick _ _ = some [(0, .int .u64 (bits .xor .u64 y z)), (1, .int .u64 f), (2, .int .i64 29), (11, .slice b L.length c), (12, .int .i64 ((L.length : Nat) : Int)), (13, .int .i64 ((i : Nat) : Int))]) ?_
    refine RP_nil ?_
    refine n_then ?_
    refine W_seq ?_
    refine W_region ?_
    refine RP_seg 4 [.p (.int .u64 (bits .xor .u64 y z)), .p (.int .u64 f), .p (.int .u64 (IntKind.u64.wrap ((bits .xor .u64 y z) * f))), .p (.int .u64 (IntKind.u64.wrap ((bits .xor .u64 y z) * f)))] [0, 1, 2, 11, 12, 13] (by kernel_rfl) (fun _ => by kernel_rfl) (by kernel_rfl : pick _ _ = some [(0, .int .u64 (IntKind.u64.wrap ((bits .xor .u64 y z) * f))), (1, .int .u64 f), (2, .int .i64 29), (11, .slice b L.length c), (12, .int .i64 ((L.length : Nat) : Int)), (13, .int .i64 ((i : Nat) : Int))]) (trivial) ?_
    refine RP_pick [0, 1, 2, 11, 12, 13] (by kernel_rfl : pick _ _ = some [(0, .int .u64 (IntKind.u64.wrap ((bits .xor .u64 y z) * f))), (1, .int .u64 f), (2, .int .i64 29), (11, .slice b L.length c), (12, .int .i64 ((L.length : Nat) : Int)), (13, .int .i64 ((i : Nat) : Int))]) ?_
    refine RP_nil ?_
    refine n_then ?_
    refine W_region ?_
    refine RP_seg 6 [.p (.int .u64 (IntKind.u64.wrap ((bits .xor .u64 y z) * f))), .p (.int .u64 (IntKind.u64.wrap ((bits .xor .u64 y z) * f))), .p (.int .i64 29), .p (.int .u64 ((IntKind.u64.wrap ((bits .xor .u64 y z) * f)).fdiv (2 ^ 29))), .p (.int .u64 (bits .xor .u64 (IntKind.u64.wrap ((bits .xor .u64 y z) * f)) ((IntKind.u64.wrap ((bits .xor .u64 y z) * f)).fdiv (2 ^ 29)))), .p (.int .u64 (bits .xor .u64 (IntKind.u64.wrap ((bits .xor .u64 y z) * f)) ((IntKind.u64.wrap ((bits .xor .u64 y z) * f)).fdiv (2 ^ 29))))] [0, 1, 2, 11, 12, 13] (by kernel_rfl) (fun _ => by kernel_rfl) (by kernel_rfl : pick _ _ = some [(0, .int .u64 (bits .xor .u64 (IntKind.u64.wrap ((bits .xor .u64 y z) * f)) ((IntKind.u64.wrap ((bits .xor .u64 y z) * f)).fdiv (2 ^ 29)))), (1, .int .u64 f), (2, .int .i64 29), (11, .slice b L.length c), (12, .int .i64 ((L.length : Nat) : Int)), (13, .int .i64 ((i : Nat) : Int))]) (trivial) ?_
    refine RP_pick [0, 1, 2, 11, 12, 13] (by kernel_rfl : pick _ _ = some [(0, .int .u64 (bits .xor .u64 (IntKind.u64.wrap ((bits .xor .u64 y z) * f)) ((IntKind.u64.wrap ((bits .xor .u64 y z) * f)).fdiv (2 ^ 29)))), (1, .int .u64 f), (2, .int .i64 29), (11, .slice b L.length c), (12, .int .i64 ((L.length : Nat) : Int)), (13, .int .i64 ((i : Nat) : Int))]) ?_
    refine RP_nil ?_
    refine n_block ?_
    refine n_then ?_
    refine W_region ?_
    refine RP_seg 2 [.p (.int .i64 (IntKind.i64.wrap (((i : Nat) : Int) + 1))), .p (.int .i64 (IntKind.i64.wrap (((i : Nat) : Int) + 1)))] [0, 1, 2, 11, 12, 13] (by kernel_rfl) (fun _ => by kernel_rfl) (by kernel_rfl : pick _ _ = some [(0, .int .u64 (bits .xor .u64 (IntKind.u64.wrap ((bits .xor .u64 y z) * f)) ((IntKind.u64.wrap ((bits .xor .u64 y z) * f)).fdiv (2 ^ 29)))), (1, .int .u64 f), (2, .int .i64 29), (11, .slice b L.length c), (12, .int .i64 ((L.length : Nat) : Int)), (13, .int .i64 (IntKind.i64.wrap (((i : Nat) : Int) + 1)))]) (trivial) ?_
    refine RP_pick [0, 1, 2, 11, 12, 13] (by kernel_rfl : pick _ _ = some [(0, .int .u64 (bits .xor .u64 (IntKind.u64.wrap ((bits .xor .u64 y z) * f)) ((IntKind.u64.wrap ((bits .xor .u64 y z) * f)).fdiv (2 ^ 29)))), (1, .int .u64 f), (2, .int .i64 29), (11, .slice b L.length c), (12, .int .i64 ((L.length : Nat) : Int)), (13, .int .i64 (IntKind.i64.wrap (((i : Nat) : Int) + 1)))]) ?_
    refine RP_nil ?_
    -- back 0: [(0, .int .u64 (bits .xor .u64 (IntKind.u64.wrap ((bits .xor .u64 y z) * f)) ((IntKind.u64.wrap ((bits .xor .u64 y z) * f)).fdiv (2 ^ 29)))), (1, .int .u64 f), (2, .int .i64 29), (11, .slice b L.length c), (12, .int .i64 ((L.length : Nat) : Int)), (13, .int .i64 (IntKind.i64.wrap (((i : Nat) : Int) + 1)))]
    exact ⟨_, by omega, (i + 1), _, rfl, by rw [inc_w (n := i) (by omega)], rfl, by omega, by rw [← hy, List.drop_eq_getElem_cons hlt, (List.getElem?_eq_some_iff.1 hz).2]; rfl⟩
  ·
    have c14_3p := of_decide_eq_false c14_3
    refine W_exit ?_
    refine e_then <| e_loop <| e_here ?_
    refine n_then ?_
    refine W_seq ?_
    refine W_region ?_
    refine RP_seg 2 [.p (.int .u64 y), .p (.int .u64 y)] [8] (by kernel_rfl) (fun _ => by kernel_rfl) (by kernel_rfl : pick _ _ = some [(8, .int .u64 y)]) (trivial) ?_
    refine RP_pick [8] (by kernel_rfl : pick _ _ = some [(8, .int .u64 y)]) ?_
    refine RP_nil ?_
    refine n_then ?_
    refine W_ret ?_
    have hiL : i = L.length := by omega
    rw [hiL, List.drop_length] at hy
    refine ret_of (P := Tryd.prog) (fn := Tryd.f157) (m := [(8, .int .u64 y)]) (w := w) (res1 rfl (rv_tmp rfl)) ?_
    -- return 0: .int .u64 y
    exact ⟨by rw [← hy]; rfl, rfl⟩
theorem lane32_cr {w : World} {b : Option Addr} {c : Nat} (x f : Int) (L : List Int) (hin : InS w b (wordCells L)) (hL : L.length < 100000000) :
    CR Tryd.prog 157 [.int .u64 x, .int .u64 f, .int .i64 32, .slice b L.length c] w fun v w' => v = .int .u64 (L.foldl (stirL f 32) x) ∧ w = w' := by
  have st := St.init w []
  refine CR_enter Tryd.func157 rfl Tryd.ntmps157 rfl ?_
  refine W_seq ?_
  refine W_region ?_
  refine RP_seg 1 [.p (.int .u64 0)] [0, 1, 2, 3] (by kernel_rfl) (fun _ => by kernel_rfl) (by kernel_rfl : pick _ _ = some [(0, .int .u64 x), (1, .int .u64 f), (2, .int .i64 32), (3, .slice b L.length c)]) (trivial) ?_
  refine RP_pick [0, 1, 2, 3] (by kernel_rfl : pick _ _ = some [(0, .int .u64 x), (1, .int .u64 f), (2, .int .i64 32), (3, .slice b L.length c)]) ?_
  refine RP_nil ?_
  refine n_then ?_
  refine W_seq ?_
  refine W_seq ?_
  refine W_region ?_
  refine RP_seg 3 [.p (.slice b L.length c), .p (.int .i64 ((L.length : Nat) : Int)), .p (.int .i64 0)] [0, 1, 2, 11, 12, 13] (by kernel_rfl) (fun _ => by kernel_rfl) (by kernel_rfl : pick _ _ = some [(0, .int .u64 x), (1, .int .u64 f), (2, .int .i64 32), (11, .slice b L.length c), (12, .int .i64 ((L.length : Nat) : Int)), (13, .int .i64 0)]) (trivial) ?_
  refine RP_pick [0, 1, 2, 11, 12, 13] (by kernel_rfl : pick _ _ = some [(0, .int .u64 x), (1, .int .u64 f), (2, .int .i64 32), (11, .slice b L.length c), (12, .int .i64 ((L.length : Nat) : Int)), (13, .int .i64 0)]) ?_
  refine RP_nil ?_
  refine n_then ?_
  refine W_block ?_
  refine W_loop (fun k_ m_ w_ => ∃ (i : Nat) (y : Int), L.length - i = k_ ∧ m_ = [(0, .int .u64 y), (1, .int .u64 f), (2, .int .i64 32), (11, .slice b L.length c), (12, .int .i64 ((L.length : Nat) : Int)), (13, .int .i64 ((i : Nat) : Int))] ∧ w = w_ ∧ i ≤ L.length ∧ (L.drop i).foldl (stirL f 32) y = L.foldl (stirL f 32) x) ⟨0, x, rfl, rfl, rfl, Nat.zero_le _, rfl⟩ ?_
  rintro _ _ _ ⟨i, y, rfl, rfl, rfl, hil, hy⟩
  refine W_seq ?_
  refine W_region ?_
  refine RP_seg 1 [.p (.bool (decide (((i : Nat) : Int) < ((L.length : Nat) : Int))))] [0, 1, 2, 11, 12, 13, 14] (by kernel_rfl) (fun _ => by kernel_rfl) (by kernel_rfl : pick _ _ = some [(0, .int .u64 y), (1, .int .u64 f), (2, .int .i64 32), (11, .slice b L.length c), (12, .int .i64 ((L.length : Nat) : Int)), (13, .int .i64 ((i : Nat) : Int)), (14, .bool (decide (((i : Nat) : Int) < ((L.length : Nat) : Int))))]) (trivial) ?_
  refine RP_pick [0, 1, 2, 11, 12, 13, 14] (by kernel_rfl : pick _ _ = some [(0, .int .u64 y), (1, .int .u64 f), (2, .int .i64 32), (11, .slice b L.length c), (12, .int .i64 ((L.length : Nat) : Int)), (13, .int .i64 ((i : Nat) : Int)), (14, .bool (decide (((i : Nat) : Int) < ((L.length : Nat) : Int))))]) ?_
  refine RP_nil ?_
  refine n_then ?_
  refine W_seq ?_
  refine W_cond rfl (fun c14_3 => ?_) (fun c14_3 => ?_)
  ·
    have c14_3p := of_decide_eq_true c14_3
    refine W_skip ?_
    refine n_then ?_
    refine W_seq ?_
    refine W_block ?_
    refine W_seq ?_
    refine W_region ?_
    have hlt : i < L.length := by omega
    obtain ⟨z, hz⟩ : ∃ z, L[i]? = some z := ⟨L[i], by simp [hlt]⟩
    have hbs := hin.some_ (by rw [wordCells_len]; omega)
    refine RP_q rfl (v := .pointer (some ⟨(sp b), so b + i * 1, none⟩)) (ev_indexI idxW rfl rfl hbs hlt) ?_
    refine RP_seg 2 [.l 28 (.pointer (some ⟨(sp b), so b + i * 1, none⟩)) (.int .u64 z), .p (.int .u64 z)] [0, 1, 2, 10, 11, 12, 13] (by kernel_rfl) (fun _ => by kernel_rfl) (by kernel_rfl : pick _ _ = some [(0, .int .u64 y), (1, .int .u64 f), (2, .int .i64 32), (10, .int .u64 z), (11, .slice b L.length c), (12, .int .i64 ((L.length : Nat) : Int)), (13, .int .i64 ((i : Nat) : Int))]) ⟨InS.load1 nagg_28 (hin) (wordCells_at hz), trivial⟩ ?_
    refine RP_pick [0, 1, 2, 10, 11, 12, 13] (by kernel_rfl : pick _ _ = some [(0, .int .u64 y), (1, .int .u64 f), (2, .int .i64 32), (10, .int .u64 z), (11, .slice b L.length c), (12, .int .i64 ((L.length : Nat) : Int)), (13, .int .i64 ((i : Nat) : Int))]) ?_
    refine RP_nil ?_
    refine n_then ?_
    refine W_seq ?_
    refine W_region ?_
    refine RP_seg 4 [.p (.int .u64 y), .p (.int .u64 z), .p (.int .u64 (bits .xor .u64 y z)), .p (.int .u64 (bits .xor .u64 y z))] [0, 1, 2, 11, 12, 13] (by kernel_rfl) (fun _ => by kernel_rfl) (by kernel_rfl : pick _ _ = some [(0, .int .u64 (bits .xor .u64 y z)), (1, .int .u64 f), (2, .int .i64 32), (11, .slice b L.length c), (12, .int .i64 ((L.length : Nat) : Int)), (13, .int .i64 ((i : Nat) : Int))]) (trivial) ?_
    refine RP_pick [0, 1, 2, 11, 12, 13] (by kernel_rfl : pick _ _ = some [(0, .int .u64 (bits .xor .u64 y z)), (1, .int .u64 f), (2, .int .i64 32), (11, .slice b L.length c), (12, .int .i64 ((L.length : Nat) : Int)), (13, .int .i64 ((i : Nat) : Int))]) ?_
    refine RP_nil ?_
    refine n_then ?_
    refine W_seq ?_
    refine W_region ?_
    refine RP_seg 4 [.p (.int .u64 (bits .xor .u64 y z)), .p (.int .u64 f), .p (.int .u64 (IntKind.u64.wrap ((bits .xor .u64 y z) * f))), .p (.int .u64 (IntKind.u64.wrap ((bits .xor .u64 y z) * f)))] [0, 1, 2, 11, 12, 13] (by kernel_rfl) (fun _ => by kernel_rfl) (by kernel_rfl : pick _ _ = some [(0, .int .u64 (IntKind.u64.wrap ((bits .xor .u64 y z) * f))), (1, .int .u64 f), (2, .int .i64 32), (11, .slice b L.length c), (12, .int .i64 ((L.length : Nat) : Int)), (13, .int .i64 ((i : Nat) : Int))]) (trivial) ?_
    refine RP_pick [0, 1, 2, 11, 12, 13] (by kernel_rfl : pick _ _ = some [(0, .int .u64 (IntKind.u64.wrap ((bits .xor .u64 y z) * f))), (1, .int .u64 f), (2, .int .i64 32), (11, .slice b L.length c), (12, .int .i64 ((L.length : Nat) : Int)), (13, .int .i64 ((i : Nat) : Int))]) ?_
    refine RP_nil ?_
    refine n_then ?_
    refine W_region ?_
    refine RP_seg 6 [.p (.int .u64 (IntKind.u64.wrap ((bits .xor .u64 y z) * f))), .p (.int .u64 (IntKind.u64.wrap ((bits .xor .u64 y z) * f))), .p (.int .i64 32), .p (.int .u64 ((IntKind.u64.wrap ((bits .xor .u64 y z) * f)).fdiv (2 ^ 32))), .p (.int .u64 (bits .xor .u64 (IntKind.u64.wrap ((bits .xor .u64 y z) * f)) ((IntKind.u64.wrap ((bits .xor .u64 y z) * f)).fdiv (2 ^ 32)))), .p (.int .u64 (bits .xor .u64 (IntKind.u64.wrap ((bits .xor .u64 y z) * f)) ((IntKind.u64.wrap ((bits .xor .u64 y z) * f)).fdiv (2 ^ 32))))] [0, 1, 2, 11, 12, 13] (by kernel_rfl) (fun _ => by kernel_rfl) (by kernel_rfl : pick _ _ = some [(0, .int .u64 (bits .xor .u64 (IntKind.u64.wrap ((bits .xor .u64 y z) * f)) ((IntKind.u64.wrap ((bits .xor .u64 y z) * f)).fdiv (2 ^ 32)))), (1, .int .u64 f), (2, .int .i64 32), (11, .slice b L.length c), (12, .int .i64 ((L.length : Nat) : Int)), (13, .int .i64 ((i : Nat) : Int))]) (trivial) ?_
    refine RP_pick [0, 1, 2, 11, 12, 13] (by kernel_rfl : pick _ _ = some [(0, .int .u64 (bits .xor .u64 (IntKind.u64.wrap ((bits .xor .u64 y z) * f)) ((IntKind.u64.wrap ((bits .xor .u64 y z) * f)).fdiv (2 ^ 32)))), (1, .int .u64 f), (2, .int .i64 32), (11, .slice b L.length c), (12, .int .i64 ((L.length : Nat) : Int)), (13, .int .i64 ((i : Nat) : Int))]) ?_
    refine RP_nil ?_
    refine n_block ?_
    refine n_then ?_
    refine W_region ?_
    refine RP_seg 2 [.p (.int .i64 (IntKind.i64.wrap (((i : Nat) : Int) + 1))), .p (.int .i64 (IntKind.i64.wrap (((i : Nat) : Int) + 1)))] [0, 1, 2, 11, 12, 13] (by kernel_rfl) (fun _ => by kernel_rfl) (by kernel_rfl : pick _ _ = some [(0, .int .u64 (bits .xor .u64 (IntKind.u64.wrap ((bits .xor .u64 y z) * f)) ((IntKind.u64.wrap ((bits .xor .u64 y z) * f)).fdiv (2 ^ 32)))), (1, .int .u64 f), (2, .int .i64 32), (11, .slice b L.length c), (12, .int .i64 ((L.length : Nat) : Int)), (13, .int .i64 (IntKind.i64.wrap (((i : Nat) : Int) + 1)))]) (trivial) ?_
    refine RP_pick [0, 1, 2, 11, 12, 13] (by kernel_rfl : pick _ _ = some [(0, .int .u64 (bits .xor .u64 (IntKind.u64.wrap ((bits .xor .u64 y z) * f)) ((IntKind.u64.wrap ((bits .xor .u64 y z) * f)).fdiv (2 ^ 32)))), (1, .int .u64 f), (2, .int .i64 32), (11, .slice b L.length c), (12, .int .i64 ((L.length : Nat) : Int)), (13, .int .i64 (IntKind.i64.wrap (((i : Nat) : Int) + 1)))]) ?_
    refine RP_nil ?_
    -- back 0: [(0, .int .u64 (bits .xor .u64 (IntKind.u64.wrap ((bits .xor .u64 y z) * f)) ((IntKind.u64.wrap ((bits .xor .u64 y z) * f)).fdiv (2 ^ 32)))), (1, .int .u64 f), (2, .int .i64 32), (11, .slice b L.length c), (12, .int .i64 ((L.length : Nat) : Int)), (13, .int .i64 (IntKind.i64.wrap (((i : Nat) : Int) + 1)))]
    exact ⟨_, by omega, (i + 1), _, rfl, by rw [inc_w (n := i) (by omega)], rfl, by omega, by rw [← hy, List.drop_eq_getElem_cons hlt, (List.getElem?_eq_some_iff.1 hz).2]; rfl⟩
  ·
    have c14_3p := of_decide_eq_false c14_3
    refine W_exit ?_
    refine e_then <| e_loop <| e_here ?_
    refine n_then ?_
    refine W_seq ?_
    refine W_region ?_
    refine RP_seg 2 [.p (.int .u64 y), .p (.int .u64 y)] [8] (by kernel_rfl) (fun _ => by kernel_rfl) (by kernel_rfl : pick _ _ = some [(8, .int .u64 y)]) (trivial) ?_
    refine RP_pick [8] (by kernel_rfl : pick _ _ = some [(8, .int .u64 y)]) ?_
    refine RP_nil ?_
    refine n_then ?_
    refine W_ret ?_
    have hiL : i = L.length := by omega
    rw [hiL, List.drop_length] at hy
    refine ret_of (P := Tryd.prog) (fn := Tryd.f157) (m := [(8, .int .u64 y)]) (w := w) (res1 rfl (rv_tmp rfl)) ?_
    -- return 0: .int .u64 y
    exact ⟨by rw [← hy]; rfl, rfl⟩
theorem ref04add_cr (a b c d : Int) (w : World) : CR Tryd.prog 149 [.agg #[.int .u64 a, .int .u64 b], .agg #[.int .u64 c, .int .u64 d]] w fun v w' =>
    v = .agg #[.int .u64 (wu (a + c)), .int .u64 (wu (b + d))] ∧ Ext [] w w' := by
  have st := St.init w []
  refine CR_enter Tryd.func149 rfl Tryd.ntmps149 rfl ?_
  refine W_seq ?_
  refine W_region ?_
  refine RP_e rfl (ef_box st rfl rfl) ?_
  rintro _ w1 ⟨g4, rfl, hg4, hg4', st2, hx3⟩
  replace st2 : St [] w w1 [(g4, 30, [.int .u64 a, .int .u64 b])] := st2
  refine RP_e rfl (ef_box st2 rfl rfl) ?_
  rintro _ w5 ⟨g8, rfl, hg8, hg8', st6, hx7⟩
  replace st6 : St [] w w5 [(g8, 30, [.int .u64 c, .int .u64 d]), (g4, 30, [.int .u64 a, .int .u64 b])] := st6
  refine RP_e rfl (ef_alloc st6 zero_30 rfl) ?_
  rintro _ w9 ⟨g12, rfl, hg12, hg12', st10, hx11⟩
  replace st10 : St [] w w9 [(g12, 30, [.int .u64 0, .int .u64 0]), (g8, 30, [.int .u64 c, .int .u64 d]), (g4, 30, [.int .u64 a, .int .u64 b])] := st10
  refine RP_pick [2, 3, 4] (by kernel_rfl : pick _ _ = some [(2, .pointer (some ⟨g4, 0, none⟩)), (3, .pointer (some ⟨g8, 0, none⟩)), (4, .pointer (some ⟨g12, 0, none⟩))]) ?_
  refine RP_nil ?_
  refine n_then ?_
  refine W_seq ?_
  refine W_region ?_
  refine RP_seg 11 [.p (.pointer (some ⟨g4, 0, none⟩)), .l 28 (.pointer (some ⟨g4, 0, none⟩)) (.int .u64 a), .p (.pointer (some ⟨g8, 0, none⟩)), .l 28 (.pointer (some ⟨g8, 0, none⟩)) (.int .u64 c), .p (.int .u64 (IntKind.u64.wrap (a + c))), .p (.pointer (some ⟨g4, 1, none⟩)), .l 28 (.pointer (some ⟨g4, 1, none⟩)) (.int .u64 b), .p (.pointer (some ⟨g8, 1, none⟩)), .l 28 (.pointer (some ⟨g8, 1, none⟩)) (.int .u64 d), .p (.int .u64 (IntKind.u64.wrap (b + d))), .p (.agg #[.int .u64 (IntKind.u64.wrap (a + c)), .int .u64 (IntKind.u64.wrap (b + d))])] [4, 15] (by kernel_rfl) (fun _ => by kernel_rfl) (by kernel_rfl : pick _ _ = some [(4, .pointer (some ⟨g12, 0, none⟩)), (15, .agg #[.int .u64 (IntKind.u64.wrap (a + c)), .int .u64 (IntKind.u64.wrap (b + d))])]) ⟨ld1 st10 nagg_28 2 rfl rfl, ld1 st10 nagg_28 1 rfl rfl, ld1 st10 nagg_28 2 rfl rfl, ld1 st10 nagg_28 1 rfl rfl, trivial⟩ ?_
  refine RP_e rfl (ef_store st10 rfl rfl rfl size_30 0 rfl rfl rfl rfl (.inr hg12)) ?_
  rintro _ w13 ⟨rfl, st14, hx15⟩
  replace st14 : St [] w w13 [(g12, 30, [.int .u64 (IntKind.u64.wrap (a + c)), .int .u64 (IntKind.u64.wrap (b + d))]), (g8, 30, [.int .u64 c, .int .u64 d]), (g4, 30, [.int .u64 a, .int .u64 b])] := st14
  refine RP_pick [4] (by kernel_rfl : pick _ _ = some [(4, .pointer (some ⟨g12, 0, none⟩))]) ?_
  refine RP_nil ?_
  refine n_then ?_
  refine W_ret ?_
  refine ret_of (P := Tryd.prog) (fn := Tryd.f149) (m := [(4, .pointer (some ⟨g12, 0, none⟩))]) (w := w13) (res1 rfl (rv_cell rfl (by simpa [Instr.loadAt, Instr.sureAddr] using (ldN st14 agg_30 0 rfl rfl rfl)))) ?_
  -- return 0: .agg #[.int .u64 (IntKind.u64.wrap (a + c)), .int .u64 (IntKind.u64.wrap (b + d))]
  exact ⟨rfl, st14.ext⟩
theorem ref05join_cr (s t : Tal) (w : World) : CR Tryd.prog 134 [s.v, t.v] w fun v w' => v = (s.join t).v ∧ Ext [] w w' := by
  have st := St.init w []
  refine CR_enter Tryd.func134 rfl Tryd.ntmps134 rfl ?_
  refine W_seq ?_
  refine W_region ?_
  refine RP_e rfl (ef_box st rfl rfl) ?_
  rintro _ w1 ⟨g4, rfl, hg4, hg4', st2, hx3⟩
  replace st2 : St [] w w1 [(g4, 32, [.int .i64 s.k, .int .u64 s.a, .int .u64 s.b])] := st2
  refine RP_e rfl (ef_box st2 rfl rfl) ?_
  rintro _ w5 ⟨g8, rfl, hg8, hg8', st6, hx7⟩
  replace st6 : St [] w w5 [(g8, 32, [.int .i64 t.k, .int .u64 t.a, .int .u64 t.b]), (g4, 32, [.int .i64 s.k, .int .u64 s.a, .int .u64 s.b])] := st6
  refine RP_e rfl (ef_alloc st6 zero_32 rfl) ?_
  rintro _ w9 ⟨g12, rfl, hg12, hg12', st10, hx11⟩
  replace st10 : St [] w w9 [(g12, 32, [.int .i64 0, .int .u64 0, .int .u64 0]), (g8, 32, [.int .i64 t.k, .int .u64 t.a, .int .u64 t.b]), (g4, 32, [.int .i64 s.k, .int .u64 s.a, .int .u64 s.b])] := st10
  refine RP_pick [2, 3, 4] (by kernel_rfl : pick _ _ = some [(2, .pointer (some ⟨g4, 0, none⟩)), (3, .pointer (some ⟨g8, 0, none⟩)), (4, .pointer (some ⟨g12, 0, none⟩))]) ?_
  refine RP_nil ?_
  refine n_then ?_
  refine W_seq ?_
  -- region 1 draws: [(1, 0), (1, 1), (1, 2), (1, 3), (1, 4), (1, 5), (1, 6), (1, 7), (1, 8), (2, 9), (1, 10), (3, 11)]
  refine W_regionS (fun w' => Blk w' g8 32 [.int .i64 t.k, .int .u64 t.a, .int .u64 t.b].toArray ∧ Blk w' g4 32 [.int .i64 s.k, .int .u64 s.a, .int .u64 s.b].toArray) [(1, 0), (1, 1), (1, 2), (1, 3), (1, 4), (1, 5), (1, 6), (1, 7), (1, 8), (2, 9), (1, 10), (3, 11)] 12 (by kernel_rfl) (by kernel_rfl) ?_
  have st13 := st10.drew
  refine RS_seg 9 [.p (.pointer (some ⟨g4, 0, none⟩)), .l 3 (.pointer (some ⟨g4, 0, none⟩)) (.int .i64 s.k), .p (.pointer (some ⟨g8, 0, none⟩)), .l 3 (.pointer (some ⟨g8, 0, none⟩)) (.int .i64 t.k), .p (.int .i64 (IntKind.i64.wrap (s.k + t.k))), .p (.pointer (some ⟨g4, 1, none⟩)), .l 30 (.pointer (some ⟨g4, 1, none⟩)) (.agg #[.int .u64 s.a, .int .u64 s.b]), .p (.pointer (some ⟨g8, 1, none⟩)), .l 30 (.pointer (some ⟨g8, 1, none⟩)) (.agg #[.int .u64 t.a, .int .u64 t.b])] [4, 9, 11, 13] (by kernel_rfl) (by kernel_rfl) (⟨st13.get 1 rfl, st13.get 2 rfl⟩) (by kernel_rfl) (fun _ => by kernel_rfl) (by kernel_rfl : pick _ _ = some [(4, .pointer (some ⟨g12, 0, none⟩)), (9, .int .i64 (IntKind.i64.wrap (s.k + t.k))), (11, .agg #[.int .u64 s.a, .int .u64 s.b]), (13, .agg #[.int .u64 t.a, .int .u64 t.b])]) (fun _ hS => ⟨ld1b (hS.2) nagg_3 rfl, ld1b (hS.1) nagg_3 rfl, ldNb (hS.2) agg_30 rfl rfl, ldNb (hS.1) agg_30 rfl rfl, trivial⟩) ?_
  refine RS_e rfl rfl (ef_call (k := 149) (args := [.agg #[.int .u64 s.a, .int .u64 s.b], .agg #[.int .u64 t.a, .int .u64 t.b]]) (ref04add_cr _ _ _ _ _) body_149 (by kernel_rfl)) ?_
  rintro _ w14 ⟨_, rfl, rfl, hx16⟩
  have st15 := st13.call0 hx16
  refine ⟨⟨st15.get 1 rfl, st15.get 2 rfl⟩, ?_⟩
  refine RS_seg 1 [.p (.agg #[.int .i64 (IntKind.i64.wrap (s.k + t.k)), .int .u64 (wu (s.a + t.a)), .int .u64 (wu (s.b + t.b))])] [4, 15] (by kernel_rfl) (by kernel_rfl) (⟨st15.get 1 rfl, st15.get 2 rfl⟩) (by kernel_rfl) (fun _ => by kernel_rfl) (by kernel_rfl : pick _ _ = some [(4, .pointer (some ⟨g12, 0, none⟩)), (15, .agg #[.int .i64 (IntKind.i64.wrap (s.k + t.k)), .int .u64 (wu (s.a + t.a)), .int .u64 (wu (s.b + t.b))])]) (fun _ hS => trivial) ?_
  refine RS_f rfl rfl (ef_store st15 rfl rfl rfl size_32 0 rfl rfl rfl rfl (.inr hg12)) ?_
  rintro _ w17 ⟨rfl, st18, hx19⟩
  replace st18 : St [] w w17 [(g12, 32, [.int .i64 (IntKind.i64.wrap (s.k + t.k)), .int .u64 (wu (s.a + t.a)), .int .u64 (wu (s.b + t.b))]), (g8, 32, [.int .i64 t.k, .int .u64 t.a, .int .u64 t.b]), (g4, 32, [.int .i64 s.k, .int .u64 s.a, .int .u64 s.b])] := st18
  refine RS_pick [4] (by kernel_rfl : pick _ _ = some [(4, .pointer (some ⟨g12, 0, none⟩))]) ?_
  refine RS_nil ?_
  refine n_then ?_
  refine W_ret ?_
  refine ret_of (P := Tryd.prog) (fn := Tryd.f134) (m := [(4, .pointer (some ⟨g12, 0, none⟩))]) (w := w17) (res1 rfl (rv_cell rfl (by simpa [Instr.loadAt, Instr.sureAddr] using (ldN st18 agg_32 0 rfl rfl rfl)))) ?_
  -- return 0: .agg #[.int .i64 (IntKind.i64.wrap (s.k + t.k)), .int .u64 (wu (s.a + t.a)), .int .u64 (wu (s.b + t.b))]
  exact ⟨by rw [w64]; rfl, st18.ext⟩
/-- what the words are behind i bytes of a key -/
def wordsTo (key : ByteArray) (i : Nat) : List Int := wu (key.size : Nat) :: keyWords (key.toList.take i)
theorem take_snoc {l : List UInt8} {i : Nat} {x : UInt8} (h : l[i]? = some x) : l.take (i + 1) = l.take i ++ [x] := by
  rw [List.take_succ, h]; rfl
theorem set_last (a : List Int) (z y : Int) : over_ (wordCells (a ++ [z])) a.length (Value.int .u64 y).cells.toList = wordCells (a ++ [y]) := by
  show over_ (wordCells (a ++ [z])) a.length [.int .u64 y] = _
  simp [over_, wordCells]
theorem pow_256 (r : Nat) : (2 : Int) ^ (8 * r) = 256 ^ r := by rw [Int.pow_mul]; rfl
theorem wadd {z : Int} {x : UInt8} {r : Nat} (hr : r < 8) (h0 : 0 ≤ z) (h1 : z < 256 ^ r) : IntKind.u64.wrap (z + IntKind.u64.wrap (IntKind.u64.wrap ((x.toNat : Nat) : Int) * 2 ^ (min (8 * r) 64))) = z + 256 ^ r * ((x.toNat : Nat) : Int) := by
  have hx : x.toNat < 256 := x.toNat_lt
  rw [show min (8 * r) 64 = 8 * r from by omega, pow_256, IntKind.wrap_u64, IntKind.wrap_u64, IntKind.wrap_u64]
  rcases r with _ | _ | _ | _ | _ | _ | _ | _ | r
  all_goals first
    | omega
    | (simp only [Int.reducePow] at *; omega)
theorem tmod8 {i : Nat} : Int.tmod ((i : Nat) : Int) 8 = ((i % 8 : Nat) : Int) := by
  rw [Int.tmod_eq_emod_of_nonneg (by omega)]; omega
end Go.Proofs.YtcopemgkjbaaeaaDoor
