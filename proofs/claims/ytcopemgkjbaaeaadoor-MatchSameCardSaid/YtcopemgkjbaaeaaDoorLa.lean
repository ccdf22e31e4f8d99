/-
  The law's helpers: WeightParts, beyond, one, right, made.
-/
import Derived.Test.YtcopemgkjbaaeaaDoorRf3
namespace Go.Proofs.YtcopemgkjbaaeaaDoor
set_option linter.all false
open Go.RowKit

theorem inc_b {n : Nat} (h : n < 9223372036854775807) : IntKind.i64.wrap (((n : Nat) : Int) + 1) = ((n + 1 : Nat) : Int) := by rw [wrap_in (by omega) (by omega)]; omega
theorem appPart : AppT Tryd.prog 26 34 8 96 := ⟨by kernel_rfl, Tryd.t34, .agg #[.int .i64 0, .string ⟨#[]⟩, .string ⟨#[]⟩, .bool false, .int .i64 0, .int .u64 0, .int .u64 0, .slice none 0 0], by kernel_rfl, by kernel_rfl, rfl, rfl, rfl, by decide⟩
theorem idxSl : IdxT Tryd.prog 99 22 1 := ⟨by kernel_rfl, size_22⟩
theorem weight_cr {w : World} {b : Option Addr} {c : Nat} (L : List Prt) (hin : InS w b (prtCells L)) (hps : PartsIn w L) (hL : L.length ≤ 9223372036854775807) (hes : ∀ p ∈ L, p.es.length ≤ 9223372036854775807) :
    CR Tryd.prog 40 [.slice b L.length c] w fun v w' => ∃ n, v = .int .i64 n ∧ Ext [] w w' := by
  have st := St.init w []
  refine CR_enter Tryd.func40 rfl Tryd.ntmps40 rfl ?_
  refine W_seq ?_
  refine W_region ?_
  refine RP_seg 1 [.p (.int .i64 0)] [0] (by kernel_rfl) (fun _ => by kernel_rfl) (by kernel_rfl : pick _ _ = some [(0, .slice b L.length c)]) (trivial) ?_
  refine RP_pick [0] (by kernel_rfl : pick _ _ = some [(0, .slice b L.length c)]) ?_
  refine RP_nil ?_
  refine n_then ?_
  refine W_seq ?_
  refine W_region ?_
  refine RP_seg 1 [.p (.int .i64 0)] [0, 3] (by kernel_rfl) (fun _ => by kernel_rfl) (by kernel_rfl : pick _ _ = some [(0, .slice b L.length c), (3, .int .i64 0)]) (trivial) ?_
  refine RP_pick [0, 3] (by kernel_rfl : pick _ _ = some [(0, .slice b L.length c), (3, .int .i64 0)]) ?_
  refine RP_nil ?_
  refine n_then ?_
  refine W_seq ?_
  refine W_seq ?_
  refine W_region ?_
  refine RP_seg 1 [.p (.int .i64 0)] [0, 3, 4] (by kernel_rfl) (fun _ => by kernel_rfl) (by kernel_rfl : pick _ _ = some [(0, .slice b L.length c), (3, .int .i64 0), (4, .int .i64 0)]) (trivial) ?_
  refine RP_pick [0, 3, 4] (by kernel_rfl : pick _ _ = some [(0, .slice b L.length c), (3, .int .i64 0), (4, .int .i64 0)]) ?_
  refine RP_nil ?_
  refine n_then ?_
  refine W_block ?_
  refine W_loop (fun k_ m_ w_ => ∃ (i : Nat) (nn : Int), L.length - i = k_ ∧ m_ = [(0, .slice b L.length c), (3, .int .i64 nn), (4, .int .i64 ((i : Nat) : Int))] ∧ St [] w w_ [] ∧ i ≤ L.length) ⟨0, 0, rfl, rfl, st, Nat.zero_le _⟩ ?_
  rintro _ _ w2 ⟨i, nn, rfl, rfl, st1, hil⟩
  refine W_seq ?_
  refine W_seq ?_
  refine W_region ?_
  refine RP_seg 5 [.p (.int .i64 ((i : Nat) : Int)), .p (.slice b L.length c), .p (.int .i64 ((L.length : Nat) : Int)), .p (.bool (decide (((i : Nat) : Int) < ((L.length : Nat) : Int)))), .p (.bool (decide (((i : Nat) : Int) < ((L.length : Nat) : Int))))] [0, 3, 4, 10] (by kernel_rfl) (fun _ => by kernel_rfl) (by kernel_rfl : pick _ _ = some [(0, .slice b L.length c), (3, .int .i64 nn), (4, .int .i64 ((i : Nat) : Int)), (10, .bool (decide (((i : Nat) : Int) < ((L.length : Nat) : Int))))]) (trivial) ?_
  rcases Bool.eq_false_or_eq_true (decide (((i : Nat) : Int) < ((L.length : Nat) : Int))) with c10_3 | c10_3
  ·
    have c10_3p := of_decide_eq_true c10_3
    refine RP_at (m' := [(0, .slice b L.length c), (3, .int .i64 nn), (4, .int .i64 ((i : Nat) : Int)), (10, .bool true)]) (by rw [c10_3]) ?_
    refine RP_seg 3 [.p (.int .i64 nn), .p (.bool (decide (nn < 2147483648))), .p (.bool (decide (nn < 2147483648)))] [0, 3, 4, 13] (by kernel_rfl) (fun _ => by kernel_rfl) (by kernel_rfl : pick _ _ = some [(0, .slice b L.length c), (3, .int .i64 nn), (4, .int .i64 ((i : Nat) : Int)), (13, .bool (decide (nn < 2147483648)))]) (trivial) ?_
    refine RP_pick [0, 3, 4, 13] (by kernel_rfl : pick _ _ = some [(0, .slice b L.length c), (3, .int .i64 nn), (4, .int .i64 ((i : Nat) : Int)), (13, .bool (decide (nn < 2147483648)))]) ?_
    refine RP_nil ?_
    refine n_then ?_
    refine W_cond rfl (fun c13_4 => ?_) (fun c13_4 => ?_)
    ·
      have c13_4p := of_decide_eq_true c13_4
      refine W_skip ?_
      refine n_then ?_
      refine W_seq ?_
      refine W_block ?_
      refine W_seq ?_
      have hlt : i < L.length := by omega
      obtain ⟨p, hp⟩ : ∃ p, L[i]? = some p := ⟨L[i], by simp [hlt]⟩
      have hbs := hin.some_ (by rw [prtCells_len]; omega)
      have hpm := List.mem_of_getElem? hp
      have hpi := hps p hpm
      have hpl := hes p hpm
      -- region 5 draws: [(1, 0), (1, 1), (1, 2), (1, 3), (1, 4), (1, 5), (1, 6), (1, 7), (1, 8), (1, 9), (1, 10), (1, 11), (1, 12), (1, 13), (1, 14), (1, 15), (1, 16), (1, 17), (1, 18), (1, 19), (0, 20)]
      refine W_regionS (fun w' => InS w' b (prtCells L)) [(1, 0), (1, 1), (1, 2), (1, 3), (1, 4), (1, 5), (1, 6), (1, 7), (1, 8), (1, 9), (1, 10), (1, 11), (1, 12), (1, 13), (1, 14), (1, 15), (1, 16), (1, 17), (1, 18), (1, 19), (0, 20)] 21 (by kernel_rfl) (by kernel_rfl) ?_
      have st5 := st1.drew
      refine RS_seg 4 [.p (.int .i64 nn), .p (.int .i64 (IntKind.i64.wrap (nn + 1))), .p (.slice b L.length c), .p (.int .i64 ((i : Nat) : Int))] [0, 4, 17, 18, 19] (by kernel_rfl) (by kernel_rfl) (hin.ext0 st5.ext) (by kernel_rfl) (fun _ => by kernel_rfl) (by kernel_rfl : pick _ _ = some [(0, .slice b L.length c), (4, .int .i64 ((i : Nat) : Int)), (17, .int .i64 (IntKind.i64.wrap (nn + 1))), (18, .slice b L.length c), (19, .int .i64 ((i : Nat) : Int))]) (fun _ hS => trivial) ?_
      refine RS_q rfl rfl (hin.ext0 st5.ext) (v := .pointer (some ⟨(sp b), so b + i * 8, none⟩)) (fun _ _ => ev_indexI idxPart rfl rfl hbs hlt) ?_
      refine RS_seg 8 [.p (.pointer (some ⟨(sp b), so b + i * 8 + 1, none⟩)), .p (.pointer (some ⟨(sp b), so b + i * 8 + 1, none⟩)), .l 9 (.pointer (some ⟨(sp b), so b + i * 8 + 1, none⟩)) (.string p.r.lo), .p (.int .i64 (((p.r.lo).size : Nat) : Int)), .p (.int .i64 (if 2147483648 < (((p.r.lo).size : Nat) : Int) then 2147483648 else (((p.r.lo).size : Nat) : Int))), .p (.int .i64 (IntKind.i64.wrap ((IntKind.i64.wrap (nn + 1)) + (if 2147483648 < (((p.r.lo).size : Nat) : Int) then 2147483648 else (((p.r.lo).size : Nat) : Int))))), .p (.slice b L.length c), .p (.int .i64 ((i : Nat) : Int))] [0, 4, 26, 27, 28] (by kernel_rfl) (by kernel_rfl) (hin.ext0 st5.ext) (by kernel_rfl) (fun _ => by kernel_rfl) (by kernel_rfl : pick _ _ = some [(0, .slice b L.length c), (4, .int .i64 ((i : Nat) : Int)), (26, .int .i64 (IntKind.i64.wrap ((IntKind.i64.wrap (nn + 1)) + (if 2147483648 < (((p.r.lo).size : Nat) : Int) then 2147483648 else (((p.r.lo).size : Nat) : Int))))), (27, .slice b L.length c), (28, .int .i64 ((i : Nat) : Int))]) (fun _ hS => ⟨(InS.load1f nagg_9 (hS) (prtCells_f (k := 1) hp (by decide) rfl)), trivial⟩) ?_
      refine RS_q rfl rfl (hin.ext0 st5.ext) (v := .pointer (some ⟨(sp b), so b + i * 8, none⟩)) (fun _ _ => ev_indexI idxPart rfl rfl hbs hlt) ?_
      refine RS_seg 6 [.p (.pointer (some ⟨(sp b), so b + i * 8 + 1, none⟩)), .p (.pointer (some ⟨(sp b), so b + i * 8 + 2, none⟩)), .l 9 (.pointer (some ⟨(sp b), so b + i * 8 + 2, none⟩)) (.string p.r.hi), .p (.int .i64 (((p.r.hi).size : Nat) : Int)), .p (.int .i64 (if 2147483648 < (((p.r.hi).size : Nat) : Int) then 2147483648 else (((p.r.hi).size : Nat) : Int))), .p (.int .i64 (IntKind.i64.wrap ((IntKind.i64.wrap ((IntKind.i64.wrap (nn + 1)) + (if 2147483648 < (((p.r.lo).size : Nat) : Int) then 2147483648 else (((p.r.lo).size : Nat) : Int)))) + (if 2147483648 < (((p.r.hi).size : Nat) : Int) then 2147483648 else (((p.r.hi).size : Nat) : Int)))))] [0, 4, 35] (by kernel_rfl) (by kernel_rfl) (hin.ext0 st5.ext) (by kernel_rfl) (fun _ => by kernel_rfl) (by kernel_rfl : pick _ _ = some [(0, .slice b L.length c), (4, .int .i64 ((i : Nat) : Int)), (35, .int .i64 (IntKind.i64.wrap ((IntKind.i64.wrap ((IntKind.i64.wrap (nn + 1)) + (if 2147483648 < (((p.r.lo).size : Nat) : Int) then 2147483648 else (((p.r.lo).size : Nat) : Int)))) + (if 2147483648 < (((p.r.hi).size : Nat) : Int) then 2147483648 else (((p.r.hi).size : Nat) : Int)))))]) (fun _ hS => ⟨(InS.load1f nagg_9 (hS) (prtCells_f (k := 2) hp (by decide) rfl)), trivial⟩) ?_
      refine RS_segP 1 [.p (.int .i64 (IntKind.i64.wrap ((IntKind.i64.wrap ((IntKind.i64.wrap (nn + 1)) + (if 2147483648 < (((p.r.lo).size : Nat) : Int) then 2147483648 else (((p.r.lo).size : Nat) : Int)))) + (if 2147483648 < (((p.r.hi).size : Nat) : Int) then 2147483648 else (((p.r.hi).size : Nat) : Int)))))] [0, 3, 4] (by kernel_rfl) (by kernel_rfl) (by kernel_rfl) (fun _ => by kernel_rfl) (by kernel_rfl : pick _ _ = some [(0, .slice b L.length c), (3, .int .i64 (IntKind.i64.wrap ((IntKind.i64.wrap ((IntKind.i64.wrap (nn + 1)) + (if 2147483648 < (((p.r.lo).size : Nat) : Int) then 2147483648 else (((p.r.lo).size : Nat) : Int)))) + (if 2147483648 < (((p.r.hi).size : Nat) : Int) then 2147483648 else (((p.r.hi).size : Nat) : Int))))), (4, .int .i64 ((i : Nat) : Int))]) (fun _ => trivial) ?_
      refine RS_pick [0, 3, 4] (by kernel_rfl : pick _ _ = some [(0, .slice b L.length c), (3, .int .i64 (IntKind.i64.wrap ((IntKind.i64.wrap ((IntKind.i64.wrap (nn + 1)) + (if 2147483648 < (((p.r.lo).size : Nat) : Int) then 2147483648 else (((p.r.lo).size : Nat) : Int)))) + (if 2147483648 < (((p.r.hi).size : Nat) : Int) then 2147483648 else (((p.r.hi).size : Nat) : Int))))), (4, .int .i64 ((i : Nat) : Int))]) ?_
      refine RS_nil ?_
      refine n_then ?_
      refine W_seq ?_
      refine W_region ?_
      refine RP_seg 1 [.p (.int .i64 0)] [0, 3, 4, 5] (by kernel_rfl) (fun _ => by kernel_rfl) (by kernel_rfl : pick _ _ = some [(0, .slice b L.length c), (3, .int .i64 (IntKind.i64.wrap ((IntKind.i64.wrap ((IntKind.i64.wrap (nn + 1)) + (if 2147483648 < (((p.r.lo).size : Nat) : Int) then 2147483648 else (((p.r.lo).size : Nat) : Int)))) + (if 2147483648 < (((p.r.hi).size : Nat) : Int) then 2147483648 else (((p.r.hi).size : Nat) : Int))))), (4, .int .i64 ((i : Nat) : Int)), (5, .int .i64 0)]) (trivial) ?_
      refine RP_pick [0, 3, 4, 5] (by kernel_rfl : pick _ _ = some [(0, .slice b L.length c), (3, .int .i64 (IntKind.i64.wrap ((IntKind.i64.wrap ((IntKind.i64.wrap (nn + 1)) + (if 2147483648 < (((p.r.lo).size : Nat) : Int) then 2147483648 else (((p.r.lo).size : Nat) : Int)))) + (if 2147483648 < (((p.r.hi).size : Nat) : Int) then 2147483648 else (((p.r.hi).size : Nat) : Int))))), (4, .int .i64 ((i : Nat) : Int)), (5, .int .i64 0)]) ?_
      refine RP_nil ?_
      refine n_then ?_
      refine W_block ?_
      refine W_loop (fun k_ m_ w_ => ∃ (k : Nat) (mm : Int), p.es.length - k = k_ ∧ m_ = [(0, .slice b L.length c), (3, .int .i64 mm), (4, .int .i64 ((i : Nat) : Int)), (5, .int .i64 ((k : Nat) : Int))] ∧ St [] w w_ [] ∧ k ≤ p.es.length) ⟨0, _, rfl, rfl, st5, Nat.zero_le _⟩ ?_
      rintro _ _ w7 ⟨k, mm, rfl, rfl, st6, hkl0⟩
      refine W_seq ?_
      refine W_seq ?_
      refine W_region ?_
      refine RP_seg 3 [.p (.int .i64 ((k : Nat) : Int)), .p (.slice b L.length c), .p (.int .i64 ((i : Nat) : Int))] [0, 3, 4, 5, 36, 37, 38] (by kernel_rfl) (fun _ => by kernel_rfl) (by kernel_rfl : pick _ _ = some [(0, .slice b L.length c), (3, .int .i64 mm), (4, .int .i64 ((i : Nat) : Int)), (5, .int .i64 ((k : Nat) : Int)), (36, .int .i64 ((k : Nat) : Int)), (37, .slice b L.length c), (38, .int .i64 ((i : Nat) : Int))]) (trivial) ?_
      refine RP_q rfl (v := .pointer (some ⟨(sp b), so b + i * 8, none⟩)) (ev_indexI idxPart rfl rfl hbs hlt) ?_
      refine RP_seg 5 [.p (.pointer (some ⟨(sp b), so b + i * 8 + 7, none⟩)), .l 22 (.pointer (some ⟨(sp b), so b + i * 8 + 7, none⟩)) (.slice p.eb p.es.length p.ec), .p (.int .i64 ((p.es.length : Nat) : Int)), .p (.bool (decide (((k : Nat) : Int) < ((p.es.length : Nat) : Int)))), .p (.bool (decide (((k : Nat) : Int) < ((p.es.length : Nat) : Int))))] [0, 3, 4, 5, 44] (by kernel_rfl) (fun _ => by kernel_rfl) (by kernel_rfl : pick _ _ = some [(0, .slice b L.length c), (3, .int .i64 mm), (4, .int .i64 ((i : Nat) : Int)), (5, .int .i64 ((k : Nat) : Int)), (44, .bool (decide (((k : Nat) : Int) < ((p.es.length : Nat) : Int))))]) ⟨InS.load1f nagg_22 (hin.ext0 st6.ext) (prtCells_f (k := 7) hp (by decide) rfl), trivial⟩ ?_
      rcases Bool.eq_false_or_eq_true (decide (((k : Nat) : Int) < ((p.es.length : Nat) : Int))) with c44_8 | c44_8
      ·
        have c44_8p := of_decide_eq_true c44_8
        refine RP_at (m' := [(0, .slice b L.length c), (3, .int .i64 mm), (4, .int .i64 ((i : Nat) : Int)), (5, .int .i64 ((k : Nat) : Int)), (44, .bool true)]) (by rw [c44_8]) ?_
        refine RP_seg 3 [.p (.int .i64 mm), .p (.bool (decide (mm < 2147483648))), .p (.bool (decide (mm < 2147483648)))] [0, 3, 4, 5, 47] (by kernel_rfl) (fun _ => by kernel_rfl) (by kernel_rfl : pick _ _ = some [(0, .slice b L.length c), (3, .int .i64 mm), (4, .int .i64 ((i : Nat) : Int)), (5, .int .i64 ((k : Nat) : Int)), (47, .bool (decide (mm < 2147483648)))]) (trivial) ?_
        refine RP_pick [0, 3, 4, 5, 47] (by kernel_rfl : pick _ _ = some [(0, .slice b L.length c), (3, .int .i64 mm), (4, .int .i64 ((i : Nat) : Int)), (5, .int .i64 ((k : Nat) : Int)), (47, .bool (decide (mm < 2147483648)))]) ?_
        refine RP_nil ?_
        refine n_then ?_
        refine W_cond rfl (fun c47_9 => ?_) (fun c47_9 => ?_)
        ·
          have c47_9p := of_decide_eq_true c47_9
          refine W_skip ?_
          refine n_then ?_
          refine W_seq ?_
          refine W_block ?_
          have hkl : k < p.es.length := by omega
          obtain ⟨e, he⟩ : ∃ e, p.es[k]? = some e := ⟨p.es[k], by simp [hkl]⟩
          have hes2 := hpi.some_ (by rw [entCells_len]; omega)
          -- region 9 draws: [(1, 0), (1, 1), (1, 2), (1, 3), (1, 4), (1, 5), (1, 6), (1, 7), (1, 8), (1, 9), (1, 10), (1, 11), (1, 12), (1, 13), (1, 14), (1, 15), (1, 16), (1, 17), (1, 18), (1, 19), (1, 20), (1, 21), (1, 22), (1, 23), (1, 24), (1, 25), (0, 26)]
          refine W_regionS (fun w' => InS w' b (prtCells L) ∧ InS w' p.eb (entCells p.es)) [(1, 0), (1, 1), (1, 2), (1, 3), (1, 4), (1, 5), (1, 6), (1, 7), (1, 8), (1, 9), (1, 10), (1, 11), (1, 12), (1, 13), (1, 14), (1, 15), (1, 16), (1, 17), (1, 18), (1, 19), (1, 20), (1, 21), (1, 22), (1, 23), (1, 24), (1, 25), (0, 26)] 27 (by kernel_rfl) (by kernel_rfl) ?_
          have st10 := st6.drew
          refine RS_seg 4 [.p (.int .i64 mm), .p (.int .i64 (IntKind.i64.wrap (mm + 1))), .p (.slice b L.length c), .p (.int .i64 ((i : Nat) : Int))] [0, 4, 5, 51, 52, 53] (by kernel_rfl) (by kernel_rfl) (⟨hin.ext0 st10.ext, hpi.ext0 st10.ext⟩) (by kernel_rfl) (fun _ => by kernel_rfl) (by kernel_rfl : pick _ _ = some [(0, .slice b L.length c), (4, .int .i64 ((i : Nat) : Int)), (5, .int .i64 ((k : Nat) : Int)), (51, .int .i64 (IntKind.i64.wrap (mm + 1))), (52, .slice b L.length c), (53, .int .i64 ((i : Nat) : Int))]) (fun _ hS => trivial) ?_
          refine RS_q rfl rfl (⟨hin.ext0 st10.ext, hpi.ext0 st10.ext⟩) (v := .pointer (some ⟨(sp b), so b + i * 8, none⟩)) (fun _ _ => ev_indexI idxPart rfl rfl hbs hlt) ?_
          refine RS_seg 3 [.p (.pointer (some ⟨(sp b), so b + i * 8 + 7, none⟩)), .l 22 (.pointer (some ⟨(sp b), so b + i * 8 + 7, none⟩)) (.slice p.eb p.es.length p.ec), .p (.int .i64 ((k : Nat) : Int))] [0, 4, 5, 51, 56, 57] (by kernel_rfl) (by kernel_rfl) (⟨hin.ext0 st10.ext, hpi.ext0 st10.ext⟩) (by kernel_rfl) (fun _ => by kernel_rfl) (by kernel_rfl : pick _ _ = some [(0, .slice b L.length c), (4, .int .i64 ((i : Nat) : Int)), (5, .int .i64 ((k : Nat) : Int)), (51, .int .i64 (IntKind.i64.wrap (mm + 1))), (56, .slice p.eb p.es.length p.ec), (57, .int .i64 ((k : Nat) : Int))]) (fun _ hS => ⟨(InS.load1f nagg_22 (hS.1) (prtCells_f (k := 7) hp (by decide) rfl)), trivial⟩) ?_
          refine RS_q rfl rfl (⟨hin.ext0 st10.ext, hpi.ext0 st10.ext⟩) (v := .pointer (some ⟨(sp p.eb), so p.eb + k * 5, none⟩)) (fun _ _ => ev_indexI idxEnt rfl rfl hes2 hkl) ?_
          refine RS_seg 7 [.p (.pointer (some ⟨(sp p.eb), so p.eb + k * 5, none⟩)), .l 9 (.pointer (some ⟨(sp p.eb), so p.eb + k * 5, none⟩)) (.string e.key), .p (.int .i64 (((e.key).size : Nat) : Int)), .p (.int .i64 (if 2147483648 < (((e.key).size : Nat) : Int) then 2147483648 else (((e.key).size : Nat) : Int))), .p (.int .i64 (IntKind.i64.wrap ((IntKind.i64.wrap (mm + 1)) + (if 2147483648 < (((e.key).size : Nat) : Int) then 2147483648 else (((e.key).size : Nat) : Int))))), .p (.slice b L.length c), .p (.int .i64 ((i : Nat) : Int))] [0, 4, 5, 63, 64, 65] (by kernel_rfl) (by kernel_rfl) (⟨hin.ext0 st10.ext, hpi.ext0 st10.ext⟩) (by kernel_rfl) (fun _ => by kernel_rfl) (by kernel_rfl : pick _ _ = some [(0, .slice b L.length c), (4, .int .i64 ((i : Nat) : Int)), (5, .int .i64 ((k : Nat) : Int)), (63, .int .i64 (IntKind.i64.wrap ((IntKind.i64.wrap (mm + 1)) + (if 2147483648 < (((e.key).size : Nat) : Int) then 2147483648 else (((e.key).size : Nat) : Int))))), (64, .slice b L.length c), (65, .int .i64 ((i : Nat) : Int))]) (fun _ hS => ⟨(InS.load1 nagg_9 (hS.2) (entCells_0 he rfl)), trivial⟩) ?_
          refine RS_q rfl rfl (⟨hin.ext0 st10.ext, hpi.ext0 st10.ext⟩) (v := .pointer (some ⟨(sp b), so b + i * 8, none⟩)) (fun _ _ => ev_indexI idxPart rfl rfl hbs hlt) ?_
          refine RS_seg 3 [.p (.pointer (some ⟨(sp b), so b + i * 8 + 7, none⟩)), .l 22 (.pointer (some ⟨(sp b), so b + i * 8 + 7, none⟩)) (.slice p.eb p.es.length p.ec), .p (.int .i64 ((k : Nat) : Int))] [0, 4, 5, 63, 68, 69] (by kernel_rfl) (by kernel_rfl) (⟨hin.ext0 st10.ext, hpi.ext0 st10.ext⟩) (by kernel_rfl) (fun _ => by kernel_rfl) (by kernel_rfl : pick _ _ = some [(0, .slice b L.length c), (4, .int .i64 ((i : Nat) : Int)), (5, .int .i64 ((k : Nat) : Int)), (63, .int .i64 (IntKind.i64.wrap ((IntKind.i64.wrap (mm + 1)) + (if 2147483648 < (((e.key).size : Nat) : Int) then 2147483648 else (((e.key).size : Nat) : Int))))), (68, .slice p.eb p.es.length p.ec), (69, .int .i64 ((k : Nat) : Int))]) (fun _ hS => ⟨(InS.load1f nagg_22 (hS.1) (prtCells_f (k := 7) hp (by decide) rfl)), trivial⟩) ?_
          refine RS_q rfl rfl (⟨hin.ext0 st10.ext, hpi.ext0 st10.ext⟩) (v := .pointer (some ⟨(sp p.eb), so p.eb + k * 5, none⟩)) (fun _ _ => ev_indexI idxEnt rfl rfl hes2 hkl) ?_
          refine RS_seg 5 [.p (.pointer (some ⟨(sp p.eb), so p.eb + k * 5 + 3, none⟩)), .l 9 (.pointer (some ⟨(sp p.eb), so p.eb + k * 5 + 3, none⟩)) (.string e.val), .p (.int .i64 (((e.val).size : Nat) : Int)), .p (.int .i64 (if 2147483648 < (((e.val).size : Nat) : Int) then 2147483648 else (((e.val).size : Nat) : Int))), .p (.int .i64 (IntKind.i64.wrap ((IntKind.i64.wrap ((IntKind.i64.wrap (mm + 1)) + (if 2147483648 < (((e.key).size : Nat) : Int) then 2147483648 else (((e.key).size : Nat) : Int)))) + (if 2147483648 < (((e.val).size : Nat) : Int) then 2147483648 else (((e.val).size : Nat) : Int)))))] [0, 4, 5, 75] (by kernel_rfl) (by kernel_rfl) (⟨hin.ext0 st10.ext, hpi.ext0 st10.ext⟩) (by kernel_rfl) (fun _ => by kernel_rfl) (by kernel_rfl : pick _ _ = some [(0, .slice b L.length c), (4, .int .i64 ((i : Nat) : Int)), (5, .int .i64 ((k : Nat) : Int)), (75, .int .i64 (IntKind.i64.wrap ((IntKind.i64.wrap ((IntKind.i64.wrap (mm + 1)) + (if 2147483648 < (((e.key).size : Nat) : Int) then 2147483648 else (((e.key).size : Nat) : Int)))) + (if 2147483648 < (((e.val).size : Nat) : Int) then 2147483648 else (((e.val).size : Nat) : Int)))))]) (fun _ hS => ⟨(InS.load1f nagg_9 (hS.2) (entCells_f (k := 3) he (by decide) rfl)), trivial⟩) ?_
          refine RS_segP 1 [.p (.int .i64 (IntKind.i64.wrap ((IntKind.i64.wrap ((IntKind.i64.wrap (mm + 1)) + (if 2147483648 < (((e.key).size : Nat) : Int) then 2147483648 else (((e.key).size : Nat) : Int)))) + (if 2147483648 < (((e.val).size : Nat) : Int) then 2147483648 else (((e.val).size : Nat) : Int)))))] [0, 3, 4, 5] (by kernel_rfl) (by kernel_rfl) (by kernel_rfl) (fun _ => by kernel_rfl) (by kernel_rfl : pick _ _ = some [(0, .slice b L.length c), (3, .int .i64 (IntKind.i64.wrap ((IntKind.i64.wrap ((IntKind.i64.wrap (mm + 1)) + (if 2147483648 < (((e.key).size : Nat) : Int) then 2147483648 else (((e.key).size : Nat) : Int)))) + (if 2147483648 < (((e.val).size : Nat) : Int) then 2147483648 else (((e.val).size : Nat) : Int))))), (4, .int .i64 ((i : Nat) : Int)), (5, .int .i64 ((k : Nat) : Int))]) (fun _ => trivial) ?_
          refine RS_pick [0, 3, 4, 5] (by kernel_rfl : pick _ _ = some [(0, .slice b L.length c), (3, .int .i64 (IntKind.i64.wrap ((IntKind.i64.wrap ((IntKind.i64.wrap (mm + 1)) + (if 2147483648 < (((e.key).size : Nat) : Int) then 2147483648 else (((e.key).size : Nat) : Int)))) + (if 2147483648 < (((e.val).size : Nat) : Int) then 2147483648 else (((e.val).size : Nat) : Int))))), (4, .int .i64 ((i : Nat) : Int)), (5, .int .i64 ((k : Nat) : Int))]) ?_
          refine RS_nil ?_
          refine n_block ?_
          refine n_then ?_
          refine W_region ?_
          refine RP_seg 3 [.p (.int .i64 ((k : Nat) : Int)), .p (.int .i64 (IntKind.i64.wrap (((k : Nat) : Int) + 1))), .p (.int .i64 (IntKind.i64.wrap (((k : Nat) : Int) + 1)))] [0, 3, 4, 5] (by kernel_rfl) (fun _ => by kernel_rfl) (by kernel_rfl : pick _ _ = some [(0, .slice b L.length c), (3, .int .i64 (IntKind.i64.wrap ((IntKind.i64.wrap ((IntKind.i64.wrap (mm + 1)) + (if 2147483648 < (((e.key).size : Nat) : Int) then 2147483648 else (((e.key).size : Nat) : Int)))) + (if 2147483648 < (((e.val).size : Nat) : Int) then 2147483648 else (((e.val).size : Nat) : Int))))), (4, .int .i64 ((i : Nat) : Int)), (5, .int .i64 (IntKind.i64.wrap (((k : Nat) : Int) + 1)))]) (trivial) ?_
          refine RP_pick [0, 3, 4, 5] (by kernel_rfl : pick _ _ = some [(0, .slice b L.length c), (3, .int .i64 (IntKind.i64.wrap ((IntKind.i64.wrap ((IntKind.i64.wrap (mm + 1)) + (if 2147483648 < (((e.key).size : Nat) : Int) then 2147483648 else (((e.key).size : Nat) : Int)))) + (if 2147483648 < (((e.val).size : Nat) : Int) then 2147483648 else (((e.val).size : Nat) : Int))))), (4, .int .i64 ((i : Nat) : Int)), (5, .int .i64 (IntKind.i64.wrap (((k : Nat) : Int) + 1)))]) ?_
          refine RP_nil ?_
          -- back 0: [(0, .slice b L.length c), (3, .int .i64 (IntKind.i64.wrap ((IntKind.i64.wrap ((IntKind.i64.wrap (mm + 1)) + (if 2147483648 < (((e.key).size : Nat) : Int) then 2147483648 else (((e.key).size : Nat) : Int)))) + (if 2147483648 < (((e.val).size : Nat) : Int) then 2147483648 else (((e.val).size : Nat) : Int))))), (4, .int .i64 ((i : Nat) : Int)), (5, .int .i64 (IntKind.i64.wrap (((k : Nat) : Int) + 1)))]
          exact ⟨_, by omega, (k + 1), _, rfl, by rw [inc_b (n := k) (by omega)], st10, by omega⟩
        ·
          have c47_9p := of_decide_eq_false c47_9
          refine W_exit ?_
          refine e_then <| e_loop <| e_here ?_
          refine n_block ?_
          refine n_then ?_
          refine W_region ?_
          refine RP_seg 3 [.p (.int .i64 ((i : Nat) : Int)), .p (.int .i64 (IntKind.i64.wrap (((i : Nat) : Int) + 1))), .p (.int .i64 (IntKind.i64.wrap (((i : Nat) : Int) + 1)))] [0, 3, 4] (by kernel_rfl) (fun _ => by kernel_rfl) (by kernel_rfl : pick _ _ = some [(0, .slice b L.length c), (3, .int .i64 mm), (4, .int .i64 (IntKind.i64.wrap (((i : Nat) : Int) + 1)))]) (trivial) ?_
          refine RP_pick [0, 3, 4] (by kernel_rfl : pick _ _ = some [(0, .slice b L.length c), (3, .int .i64 mm), (4, .int .i64 (IntKind.i64.wrap (((i : Nat) : Int) + 1)))]) ?_
          refine RP_nil ?_
          -- back 0: [(0, .slice b L.length c), (3, .int .i64 mm), (4, .int .i64 (IntKind.i64.wrap (((i : Nat) : Int) + 1)))]
          exact ⟨_, by omega, (i + 1), _, rfl, by rw [inc_b (n := i) (by omega)], st6, by omega⟩
      ·
        have c44_8p := of_decide_eq_false c44_8
        refine RP_at (m' := [(0, .slice b L.length c), (3, .int .i64 mm), (4, .int .i64 ((i : Nat) : Int)), (5, .int .i64 ((k : Nat) : Int)), (44, .bool false)]) (by rw [c44_8]) ?_
        refine RP_seg 3 [.no, .no, .p (.bool false)] [0, 3, 4, 5, 47] (by kernel_rfl) (fun _ => by kernel_rfl) (by kernel_rfl : pick _ _ = some [(0, .slice b L.length c), (3, .int .i64 mm), (4, .int .i64 ((i : Nat) : Int)), (5, .int .i64 ((k : Nat) : Int)), (47, .bool false)]) (trivial) ?_
        refine RP_pick [0, 3, 4, 5, 47] (by kernel_rfl : pick _ _ = some [(0, .slice b L.length c), (3, .int .i64 mm), (4, .int .i64 ((i : Nat) : Int)), (5, .int .i64 ((k : Nat) : Int)), (47, .bool false)]) ?_
        refine RP_nil ?_
        refine n_then ?_
        refine W_false rfl ?_
        refine W_exit ?_
        refine e_then <| e_loop <| e_here ?_
        refine n_block ?_
        refine n_then ?_
        refine W_region ?_
        refine RP_seg 3 [.p (.int .i64 ((i : Nat) : Int)), .p (.int .i64 (IntKind.i64.wrap (((i : Nat) : Int) + 1))), .p (.int .i64 (IntKind.i64.wrap (((i : Nat) : Int) + 1)))] [0, 3, 4] (by kernel_rfl) (fun _ => by kernel_rfl) (by kernel_rfl : pick _ _ = some [(0, .slice b L.length c), (3, .int .i64 mm), (4, .int .i64 (IntKind.i64.wrap (((i : Nat) : Int) + 1)))]) (trivial) ?_
        refine RP_pick [0, 3, 4] (by kernel_rfl : pick _ _ = some [(0, .slice b L.length c), (3, .int .i64 mm), (4, .int .i64 (IntKind.i64.wrap (((i : Nat) : Int) + 1)))]) ?_
        refine RP_nil ?_
        -- back 1: [(0, .slice b L.length c), (3, .int .i64 mm), (4, .int .i64 (IntKind.i64.wrap (((i : Nat) : Int) + 1)))]
        exact ⟨_, by omega, (i + 1), _, rfl, by rw [inc_b (n := i) (by omega)], st6, by omega⟩
    ·
      have c13_4p := of_decide_eq_false c13_4
      refine W_exit ?_
      refine e_then <| e_loop <| e_here ?_
      refine n_then ?_
      refine W_seq ?_
      refine W_region ?_
      refine RP_seg 2 [.p (.int .i64 nn), .p (.int .i64 nn)] [2] (by kernel_rfl) (fun _ => by kernel_rfl) (by kernel_rfl : pick _ _ = some [(2, .int .i64 nn)]) (trivial) ?_
      refine RP_pick [2] (by kernel_rfl : pick _ _ = some [(2, .int .i64 nn)]) ?_
      refine RP_nil ?_
      refine n_then ?_
      refine W_ret ?_
      refine ret_of (P := Tryd.prog) (fn := Tryd.f40) (m := [(2, .int .i64 nn)]) (w := w2) (res1 rfl (rv_tmp rfl)) ?_
      -- return 0: .int .i64 nn
      exact ⟨_, rfl, st1.ext⟩
  ·
    have c10_3p := of_decide_eq_false c10_3
    refine RP_at (m' := [(0, .slice b L.length c), (3, .int .i64 nn), (4, .int .i64 ((i : Nat) : Int)), (10, .bool false)]) (by rw [c10_3]) ?_
    refine RP_seg 3 [.no, .no, .p (.bool false)] [0, 3, 4, 13] (by kernel_rfl) (fun _ => by kernel_rfl) (by kernel_rfl : pick _ _ = some [(0, .slice b L.length c), (3, .int .i64 nn), (4, .int .i64 ((i : Nat) : Int)), (13, .bool false)]) (trivial) ?_
    refine RP_pick [0, 3, 4, 13] (by kernel_rfl : pick _ _ = some [(0, .slice b L.length c), (3, .int .i64 nn), (4, .int .i64 ((i : Nat) : Int)), (13, .bool false)]) ?_
    refine RP_nil ?_
    refine n_then ?_
    refine W_false rfl ?_
    refine W_exit ?_
    refine e_then <| e_loop <| e_here ?_
    refine n_then ?_
    refine W_seq ?_
    refine W_region ?_
    refine RP_seg 2 [.p (.int .i64 nn), .p (.int .i64 nn)] [2] (by kernel_rfl) (fun _ => by kernel_rfl) (by kernel_rfl : pick _ _ = some [(2, .int .i64 nn)]) (trivial) ?_
    refine RP_pick [2] (by kernel_rfl : pick _ _ = some [(2, .int .i64 nn)]) ?_
    refine RP_nil ?_
    refine n_then ?_
    refine W_ret ?_
    refine ret_of (P := Tryd.prog) (fn := Tryd.f40) (m := [(2, .int .i64 nn)]) (w := w2) (res1 rfl (rv_tmp rfl)) ?_
    -- return 1: .int .i64 nn
    exact ⟨_, rfl, st1.ext⟩
structure ESl where
  l : List Ent
  b : Option Addr
  c : Nat
def slCells (L : List ESl) : List Value := L.map fun s => .slice s.b s.l.length s.c
theorem slCells_len (L : List ESl) : (slCells L).length = L.length := by simp [slCells]
theorem slCells_at {L : List ESl} {s : ESl} {n : Nat} (h : L[n]? = some s) : (slCells L)[n * 1]? = some (.slice s.b s.l.length s.c) := by simp [slCells, h]
theorem beyond_cr {w : World} {b d : Option Addr} {c f : Nat} (L : List Prt) (LL : List ESl) (hin : InS w b (prtCells L)) (hps : PartsIn w L) (hL : L.length ≤ 9223372036854775807) (hes : ∀ p ∈ L, p.es.length ≤ 9223372036854775807)
    (hll : InS w d (slCells LL)) (hls : ∀ s ∈ LL, InS w s.b (entCells s.l)) (hLL : LL.length ≤ 9223372036854775807) (hsl : ∀ s ∈ LL, s.l.length ≤ 9223372036854775807) :
    CR Tryd.prog 9 [.slice b L.length c, .slice d LL.length f] w fun v w' => ∃ n, v = .bool n ∧ Ext [] w w' := by
  have st := St.init w []
  refine CR_enter Tryd.func9 rfl Tryd.ntmps9 rfl ?_
  refine W_seq ?_
  refine W_region ?_
  refine RP_seg 1 [.p (.bool false)] [0, 1] (by kernel_rfl) (fun _ => by kernel_rfl) (by kernel_rfl : pick _ _ = some [(0, .slice b L.length c), (1, .slice d LL.length f)]) (trivial) ?_
  refine RP_pick [0, 1] (by kernel_rfl : pick _ _ = some [(0, .slice b L.length c), (1, .slice d LL.length f)]) ?_
  refine RP_nil ?_
  refine n_then ?_
  refine W_seq ?_
  refine W_region ?_
  refine RP_seg 1 [.p (.slice b L.length c)] [1, 8] (by kernel_rfl) (fun _ => by kernel_rfl) (by kernel_rfl : pick _ _ = some [(1, .slice d LL.length f), (8, .slice b L.length c)]) (trivial) ?_
  refine RP_e rfl (ef_call (k := 40) (args := [.slice b L.length c]) (weight_cr L hin hps hL hes) body_40 (by kernel_rfl)) ?_
  rintro _ w1 ⟨_, rfl, n0, rfl, hx3⟩
  have st2 := st.call0 hx3
  refine RP_seg 1 [.p (.int .i64 n0)] [1, 5] (by kernel_rfl) (fun _ => by kernel_rfl) (by kernel_rfl : pick _ _ = some [(1, .slice d LL.length f), (5, .int .i64 n0)]) (trivial) ?_
  refine RP_pick [1, 5] (by kernel_rfl : pick _ _ = some [(1, .slice d LL.length f), (5, .int .i64 n0)]) ?_
  refine RP_nil ?_
  refine n_then ?_
  refine W_seq ?_
  refine W_seq ?_
  refine W_region ?_
  refine RP_seg 1 [.p (.int .i64 0)] [1, 5, 6] (by kernel_rfl) (fun _ => by kernel_rfl) (by kernel_rfl : pick _ _ = some [(1, .slice d LL.length f), (5, .int .i64 n0), (6, .int .i64 0)]) (trivial) ?_
  refine RP_pick [1, 5, 6] (by kernel_rfl : pick _ _ = some [(1, .slice d LL.length f), (5, .int .i64 n0), (6, .int .i64 0)]) ?_
  refine RP_nil ?_
  refine n_then ?_
  refine W_block ?_
  refine W_loop (fun k_ m_ w_ => ∃ (i : Nat) (nn : Int), LL.length - i = k_ ∧ m_ = [(1, .slice d LL.length f), (5, .int .i64 nn), (6, .int .i64 ((i : Nat) : Int))] ∧ St [] w w_ [] ∧ i ≤ LL.length) ⟨0, _, rfl, rfl, st2, Nat.zero_le _⟩ ?_
  rintro _ _ w5 ⟨i, nn, rfl, rfl, st4, hil⟩
  refine W_seq ?_
  refine W_seq ?_
  refine W_region ?_
  refine RP_seg 4 [.p (.int .i64 ((i : Nat) : Int)), .p (.slice d LL.length f), .p (.int .i64 ((LL.length : Nat) : Int)), .p (.bool (decide (((i : Nat) : Int) < ((LL.length : Nat) : Int))))] [1, 5, 6, 13] (by kernel_rfl) (fun _ => by kernel_rfl) (by kernel_rfl : pick _ _ = some [(1, .slice d LL.length f), (5, .int .i64 nn), (6, .int .i64 ((i : Nat) : Int)), (13, .bool (decide (((i : Nat) : Int) < ((LL.length : Nat) : Int))))]) (trivial) ?_
  refine RP_pick [1, 5, 6, 13] (by kernel_rfl : pick _ _ = some [(1, .slice d LL.length f), (5, .int .i64 nn), (6, .int .i64 ((i : Nat) : Int)), (13, .bool (decide (((i : Nat) : Int) < ((LL.length : Nat) : Int))))]) ?_
  refine RP_nil ?_
  refine n_then ?_
  refine W_cond rfl (fun c13_6 => ?_) (fun c13_6 => ?_)
  ·
    have c13_6p := of_decide_eq_true c13_6
    refine W_skip ?_
    refine n_then ?_
    refine W_seq ?_
    refine W_block ?_
    refine W_seq ?_
    have hlt : i < LL.length := by omega
    obtain ⟨s, hs⟩ : ∃ s, LL[i]? = some s := ⟨LL[i], by simp [hlt]⟩
    have hbs := hll.some_ (by rw [slCells_len]; omega)
    have hsm := List.mem_of_getElem? hs
    have hsi := hls s hsm
    have hsl2 := hsl s hsm
    refine W_region ?_
    refine RP_seg 1 [.p (.int .i64 0)] [1, 5, 6, 7] (by kernel_rfl) (fun _ => by kernel_rfl) (by kernel_rfl : pick _ _ = some [(1, .slice d LL.length f), (5, .int .i64 nn), (6, .int .i64 ((i : Nat) : Int)), (7, .int .i64 0)]) (trivial) ?_
    refine RP_pick [1, 5, 6, 7] (by kernel_rfl : pick _ _ = some [(1, .slice d LL.length f), (5, .int .i64 nn), (6, .int .i64 ((i : Nat) : Int)), (7, .int .i64 0)]) ?_
    refine RP_nil ?_
    refine n_then ?_
    refine W_block ?_
    refine W_loop (fun k_ m_ w_ => ∃ (k : Nat) (mm : Int), s.l.length - k = k_ ∧ m_ = [(1, .slice d LL.length f), (5, .int .i64 mm), (6, .int .i64 ((i : Nat) : Int)), (7, .int .i64 ((k : Nat) : Int))] ∧ St [] w w_ [] ∧ k ≤ s.l.length) ⟨0, _, rfl, rfl, st4, Nat.zero_le _⟩ ?_
    rintro _ _ w8 ⟨k, mm, rfl, rfl, st7, hkl0⟩
    refine W_seq ?_
    refine W_seq ?_
    refine W_region ?_
    refine RP_seg 3 [.p (.int .i64 ((k : Nat) : Int)), .p (.slice d LL.length f), .p (.int .i64 ((i : Nat) : Int))] [1, 5, 6, 7, 16, 17, 18] (by kernel_rfl) (fun _ => by kernel_rfl) (by kernel_rfl : pick _ _ = some [(1, .slice d LL.length f), (5, .int .i64 mm), (6, .int .i64 ((i : Nat) : Int)), (7, .int .i64 ((k : Nat) : Int)), (16, .int .i64 ((k : Nat) : Int)), (17, .slice d LL.length f), (18, .int .i64 ((i : Nat) : Int))]) (trivial) ?_
    refine RP_q rfl (v := .pointer (some ⟨(sp d), so d + i * 1, none⟩)) (ev_indexI idxSl rfl rfl hbs hlt) ?_
    refine RP_seg 4 [.l 22 (.pointer (some ⟨(sp d), so d + i * 1, none⟩)) (.slice s.b s.l.length s.c), .p (.int .i64 ((s.l.length : Nat) : Int)), .p (.bool (decide (((k : Nat) : Int) < ((s.l.length : Nat) : Int)))), .p (.bool (decide (((k : Nat) : Int) < ((s.l.length : Nat) : Int))))] [1, 5, 6, 7, 23] (by kernel_rfl) (fun _ => by kernel_rfl) (by kernel_rfl : pick _ _ = some [(1, .slice d LL.length f), (5, .int .i64 mm), (6, .int .i64 ((i : Nat) : Int)), (7, .int .i64 ((k : Nat) : Int)), (23, .bool (decide (((k : Nat) : Int) < ((s.l.length : Nat) : Int))))]) ⟨InS.load1 nagg_22 (hll.ext0 st7.ext) (slCells_at hs), trivial⟩ ?_
    rcases Bool.eq_false_or_eq_true (decide (((k : Nat) : Int) < ((s.l.length : Nat) : Int))) with c23_9 | c23_9
    ·
      have c23_9p := of_decide_eq_true c23_9
      refine RP_at (m' := [(1, .slice d LL.length f), (5, .int .i64 mm), (6, .int .i64 ((i : Nat) : Int)), (7, .int .i64 ((k : Nat) : Int)), (23, .bool true)]) (by rw [c23_9]) ?_
      refine RP_seg 3 [.p (.int .i64 mm), .p (.bool (decide (mm ≤ 536870912))), .p (.bool (decide (mm ≤ 536870912)))] [1, 5, 6, 7, 26] (by kernel_rfl) (fun _ => by kernel_rfl) (by kernel_rfl : pick _ _ = some [(1, .slice d LL.length f), (5, .int .i64 mm), (6, .int .i64 ((i : Nat) : Int)), (7, .int .i64 ((k : Nat) : Int)), (26, .bool (decide (mm ≤ 536870912)))]) (trivial) ?_
      refine RP_pick [1, 5, 6, 7, 26] (by kernel_rfl : pick _ _ = some [(1, .slice d LL.length f), (5, .int .i64 mm), (6, .int .i64 ((i : Nat) : Int)), (7, .int .i64 ((k : Nat) : Int)), (26, .bool (decide (mm ≤ 536870912)))]) ?_
      refine RP_nil ?_
      refine n_then ?_
      refine W_cond rfl (fun c26_10 => ?_) (fun c26_10 => ?_)
      ·
        have c26_10p := of_decide_eq_true c26_10
        refine W_skip ?_
        refine n_then ?_
        refine W_seq ?_
        refine W_block ?_
        have hkl : k < s.l.length := by omega
        obtain ⟨e, he⟩ : ∃ e, s.l[k]? = some e := ⟨s.l[k], by simp [hkl]⟩
        have hes2 := hsi.some_ (by rw [entCells_len]; omega)
        -- region 8 draws: [(1, 0), (1, 1), (1, 2), (1, 3), (1, 4), (1, 5), (1, 6), (1, 7), (1, 8), (1, 9), (1, 10), (1, 11), (1, 12), (1, 13), (1, 14), (1, 15), (1, 16), (1, 17), (1, 18), (1, 19), (1, 20), (1, 21), (1, 22), (1, 23), (0, 24)]
        refine W_regionS (fun w' => InS w' d (slCells LL) ∧ InS w' s.b (entCells s.l)) [(1, 0), (1, 1), (1, 2), (1, 3), (1, 4), (1, 5), (1, 6), (1, 7), (1, 8), (1, 9), (1, 10), (1, 11), (1, 12), (1, 13), (1, 14), (1, 15), (1, 16), (1, 17), (1, 18), (1, 19), (1, 20), (1, 21), (1, 22), (1, 23), (0, 24)] 25 (by kernel_rfl) (by kernel_rfl) ?_
        have st11 := st7.drew
        refine RS_seg 3 [.p (.int .i64 mm), .p (.slice d LL.length f), .p (.int .i64 ((i : Nat) : Int))] [1, 6, 7, 29, 30, 31] (by kernel_rfl) (by kernel_rfl) (⟨hll.ext0 st11.ext, hsi.ext0 st11.ext⟩) (by kernel_rfl) (fun _ => by kernel_rfl) (by kernel_rfl : pick _ _ = some [(1, .slice d LL.length f), (6, .int .i64 ((i : Nat) : Int)), (7, .int .i64 ((k : Nat) : Int)), (29, .int .i64 mm), (30, .slice d LL.length f), (31, .int .i64 ((i : Nat) : Int))]) (fun _ hS => trivial) ?_
        refine RS_q rfl rfl (⟨hll.ext0 st11.ext, hsi.ext0 st11.ext⟩) (v := .pointer (some ⟨(sp d), so d + i * 1, none⟩)) (fun _ _ => ev_indexI idxSl rfl rfl hbs hlt) ?_
        refine RS_seg 2 [.l 22 (.pointer (some ⟨(sp d), so d + i * 1, none⟩)) (.slice s.b s.l.length s.c), .p (.int .i64 ((k : Nat) : Int))] [1, 6, 7, 29, 33, 34] (by kernel_rfl) (by kernel_rfl) (⟨hll.ext0 st11.ext, hsi.ext0 st11.ext⟩) (by kernel_rfl) (fun _ => by kernel_rfl) (by kernel_rfl : pick _ _ = some [(1, .slice d LL.length f), (6, .int .i64 ((i : Nat) : Int)), (7, .int .i64 ((k : Nat) : Int)), (29, .int .i64 mm), (33, .slice s.b s.l.length s.c), (34, .int .i64 ((k : Nat) : Int))]) (fun _ hS => ⟨(InS.load1 nagg_22 (hS.1) (slCells_at hs)), trivial⟩) ?_
        refine RS_q rfl rfl (⟨hll.ext0 st11.ext, hsi.ext0 st11.ext⟩) (v := .pointer (some ⟨(sp s.b), so s.b + k * 5, none⟩)) (fun _ _ => ev_indexI idxEnt rfl rfl hes2 hkl) ?_
        refine RS_seg 7 [.p (.pointer (some ⟨(sp s.b), so s.b + k * 5, none⟩)), .l 9 (.pointer (some ⟨(sp s.b), so s.b + k * 5, none⟩)) (.string e.key), .p (.int .i64 (((e.key).size : Nat) : Int)), .p (.int .i64 (if 1073741824 < (((e.key).size : Nat) : Int) then 1073741824 else (((e.key).size : Nat) : Int))), .p (.int .i64 (IntKind.i64.wrap (1 + (if 1073741824 < (((e.key).size : Nat) : Int) then 1073741824 else (((e.key).size : Nat) : Int))))), .p (.slice d LL.length f), .p (.int .i64 ((i : Nat) : Int))] [1, 6, 7, 29, 40, 41, 42] (by kernel_rfl) (by kernel_rfl) (⟨hll.ext0 st11.ext, hsi.ext0 st11.ext⟩) (by kernel_rfl) (fun _ => by kernel_rfl) (by kernel_rfl : pick _ _ = some [(1, .slice d LL.length f), (6, .int .i64 ((i : Nat) : Int)), (7, .int .i64 ((k : Nat) : Int)), (29, .int .i64 mm), (40, .int .i64 (IntKind.i64.wrap (1 + (if 1073741824 < (((e.key).size : Nat) : Int) then 1073741824 else (((e.key).size : Nat) : Int))))), (41, .slice d LL.length f), (42, .int .i64 ((i : Nat) : Int))]) (fun _ hS => ⟨(InS.load1 nagg_9 (hS.2) (entCells_0 he rfl)), trivial⟩) ?_
        refine RS_q rfl rfl (⟨hll.ext0 st11.ext, hsi.ext0 st11.ext⟩) (v := .pointer (some ⟨(sp d), so d + i * 1, none⟩)) (fun _ _ => ev_indexI idxSl rfl rfl hbs hlt) ?_
        refine RS_seg 2 [.l 22 (.pointer (some ⟨(sp d), so d + i * 1, none⟩)) (.slice s.b s.l.length s.c), .p (.int .i64 ((k : Nat) : Int))] [1, 6, 7, 29, 40, 44, 45] (by kernel_rfl) (by kernel_rfl) (⟨hll.ext0 st11.ext, hsi.ext0 st11.ext⟩) (by kernel_rfl) (fun _ => by kernel_rfl) (by kernel_rfl : pick _ _ = some [(1, .slice d LL.length f), (6, .int .i64 ((i : Nat) : Int)), (7, .int .i64 ((k : Nat) : Int)), (29, .int .i64 mm), (40, .int .i64 (IntKind.i64.wrap (1 + (if 1073741824 < (((e.key).size : Nat) : Int) then 1073741824 else (((e.key).size : Nat) : Int))))), (44, .slice s.b s.l.length s.c), (45, .int .i64 ((k : Nat) : Int))]) (fun _ hS => ⟨(InS.load1 nagg_22 (hS.1) (slCells_at hs)), trivial⟩) ?_
        refine RS_q rfl rfl (⟨hll.ext0 st11.ext, hsi.ext0 st11.ext⟩) (v := .pointer (some ⟨(sp s.b), so s.b + k * 5, none⟩)) (fun _ _ => ev_indexI idxEnt rfl rfl hes2 hkl) ?_
        refine RS_seg 6 [.p (.pointer (some ⟨(sp s.b), so s.b + k * 5 + 3, none⟩)), .l 9 (.pointer (some ⟨(sp s.b), so s.b + k * 5 + 3, none⟩)) (.string e.val), .p (.int .i64 (((e.val).size : Nat) : Int)), .p (.int .i64 (if 1073741824 < (((e.val).size : Nat) : Int) then 1073741824 else (((e.val).size : Nat) : Int))), .p (.int .i64 (IntKind.i64.wrap ((IntKind.i64.wrap (1 + (if 1073741824 < (((e.key).size : Nat) : Int) then 1073741824 else (((e.key).size : Nat) : Int)))) + (if 1073741824 < (((e.val).size : Nat) : Int) then 1073741824 else (((e.val).size : Nat) : Int))))), .p (.int .i64 (IntKind.i64.wrap (mm + (IntKind.i64.wrap ((IntKind.i64.wrap (1 + (if 1073741824 < (((e.key).size : Nat) : Int) then 1073741824 else (((e.key).size : Nat) : Int)))) + (if 1073741824 < (((e.val).size : Nat) : Int) then 1073741824 else (((e.val).size : Nat) : Int)))))))] [1, 6, 7, 52] (by kernel_rfl) (by kernel_rfl) (⟨hll.ext0 st11.ext, hsi.ext0 st11.ext⟩) (by kernel_rfl) (fun _ => by kernel_rfl) (by kernel_rfl : pick _ _ = some [(1, .slice d LL.length f), (6, .int .i64 ((i : Nat) : Int)), (7, .int .i64 ((k : Nat) : Int)), (52, .int .i64 (IntKind.i64.wrap (mm + (IntKind.i64.wrap ((IntKind.i64.wrap (1 + (if 1073741824 < (((e.key).size : Nat) : Int) then 1073741824 else (((e.key).size : Nat) : Int)))) + (if 1073741824 < (((e.val).size : Nat) : Int) then 1073741824 else (((e.val).size : Nat) : Int)))))))]) (fun _ hS => ⟨(InS.load1f nagg_9 (hS.2) (entCells_f (k := 3) he (by decide) rfl)), trivial⟩) ?_
        refine RS_segP 1 [.p (.int .i64 (IntKind.i64.wrap (mm + (IntKind.i64.wrap ((IntKind.i64.wrap (1 + (if 1073741824 < (((e.key).size : Nat) : Int) then 1073741824 else (((e.key).size : Nat) : Int)))) + (if 1073741824 < (((e.val).size : Nat) : Int) then 1073741824 else (((e.val).size : Nat) : Int)))))))] [1, 5, 6, 7] (by kernel_rfl) (by kernel_rfl) (by kernel_rfl) (fun _ => by kernel_rfl) (by kernel_rfl : pick _ _ = some [(1, .slice d LL.length f), (5, .int .i64 (IntKind.i64.wrap (mm + (IntKind.i64.wrap ((IntKind.i64.wrap (1 + (if 1073741824 < (((e.key).size : Nat) : Int) then 1073741824 else (((e.key).size : Nat) : Int)))) + (if 1073741824 < (((e.val).size : Nat) : Int) then 1073741824 else (((e.val).size : Nat) : Int))))))), (6, .int .i64 ((i : Nat) : Int)), (7, .int .i64 ((k : Nat) : Int))]) (fun _ => trivial) ?_
        refine RS_pick [1, 5, 6, 7] (by kernel_rfl : pick _ _ = some [(1, .slice d LL.length f), (5, .int .i64 (IntKind.i64.wrap (mm + (IntKind.i64.wrap ((IntKind.i64.wrap (1 + (if 1073741824 < (((e.key).size : Nat) : Int) then 1073741824 else (((e.key).size : Nat) : Int)))) + (if 1073741824 < (((e.val).size : Nat) : Int) then 1073741824 else (((e.val).size : Nat) : Int))))))), (6, .int .i64 ((i : Nat) : Int)), (7, .int .i64 ((k : Nat) : Int))]) ?_
        refine RS_nil ?_
        refine n_block ?_
        refine n_then ?_
        refine W_region ?_
        refine RP_seg 3 [.p (.int .i64 ((k : Nat) : Int)), .p (.int .i64 (IntKind.i64.wrap (((k : Nat) : Int) + 1))), .p (.int .i64 (IntKind.i64.wrap (((k : Nat) : Int) + 1)))] [1, 5, 6, 7] (by kernel_rfl) (fun _ => by kernel_rfl) (by kernel_rfl : pick _ _ = some [(1, .slice d LL.length f), (5, .int .i64 (IntKind.i64.wrap (mm + (IntKind.i64.wrap ((IntKind.i64.wrap (1 + (if 1073741824 < (((e.key).size : Nat) : Int) then 1073741824 else (((e.key).size : Nat) : Int)))) + (if 1073741824 < (((e.val).size : Nat) : Int) then 1073741824 else (((e.val).size : Nat) : Int))))))), (6, .int .i64 ((i : Nat) : Int)), (7, .int .i64 (IntKind.i64.wrap (((k : Nat) : Int) + 1)))]) (trivial) ?_
        refine RP_pick [1, 5, 6, 7] (by kernel_rfl : pick _ _ = some [(1, .slice d LL.length f), (5, .int .i64 (IntKind.i64.wrap (mm + (IntKind.i64.wrap ((IntKind.i64.wrap (1 + (if 1073741824 < (((e.key).size : Nat) : Int) then 1073741824 else (((e.key).size : Nat) : Int)))) + (if 1073741824 < (((e.val).size : Nat) : Int) then 1073741824 else (((e.val).size : Nat) : Int))))))), (6, .int .i64 ((i : Nat) : Int)), (7, .int .i64 (IntKind.i64.wrap (((k : Nat) : Int) + 1)))]) ?_
        refine RP_nil ?_
        -- back 0: [(1, .slice d LL.length f), (5, .int .i64 (IntKind.i64.wrap (mm + (IntKind.i64.wrap ((IntKind.i64.wrap (1 + (if 1073741824 < (((e.key).size : Nat) : Int) then 1073741824 else (((e.key).size : Nat) : Int)))) + (if 1073741824 < (((e.val).size : Nat) : Int) then 1073741824 else (((e.val).size : Nat) : Int))))))), (6, .int .i64 ((i : Nat) : Int)), (7, .int .i64 (IntKind.i64.wrap (((k : Nat) : Int) + 1)))]
        exact ⟨_, by omega, (k + 1), _, rfl, by rw [inc_b (n := k) (by omega)], st11, by omega⟩
      ·
        have c26_10p := of_decide_eq_false c26_10
        refine W_exit ?_
        refine e_then <| e_loop <| e_here ?_
        refine n_block ?_
        refine n_then ?_
        refine W_region ?_
        refine RP_seg 3 [.p (.int .i64 ((i : Nat) : Int)), .p (.int .i64 (IntKind.i64.wrap (((i : Nat) : Int) + 1))), .p (.int .i64 (IntKind.i64.wrap (((i : Nat) : Int) + 1)))] [1, 5, 6] (by kernel_rfl) (fun _ => by kernel_rfl) (by kernel_rfl : pick _ _ = some [(1, .slice d LL.length f), (5, .int .i64 mm), (6, .int .i64 (IntKind.i64.wrap (((i : Nat) : Int) + 1)))]) (trivial) ?_
        refine RP_pick [1, 5, 6] (by kernel_rfl : pick _ _ = some [(1, .slice d LL.length f), (5, .int .i64 mm), (6, .int .i64 (IntKind.i64.wrap (((i : Nat) : Int) + 1)))]) ?_
        refine RP_nil ?_
        -- back 0: [(1, .slice d LL.length f), (5, .int .i64 mm), (6, .int .i64 (IntKind.i64.wrap (((i : Nat) : Int) + 1)))]
        exact ⟨_, by omega, (i + 1), _, rfl, by rw [inc_b (n := i) (by omega)], st7, by omega⟩
    ·
      have c23_9p := of_decide_eq_false c23_9
      refine RP_at (m' := [(1, .slice d LL.length f), (5, .int .i64 mm), (6, .int .i64 ((i : Nat) : Int)), (7, .int .i64 ((k : Nat) : Int)), (23, .bool false)]) (by rw [c23_9]) ?_
      refine RP_seg 3 [.no, .no, .p (.bool false)] [1, 5, 6, 7, 26] (by kernel_rfl) (fun _ => by kernel_rfl) (by kernel_rfl : pick _ _ = some [(1, .slice d LL.length f), (5, .int .i64 mm), (6, .int .i64 ((i : Nat) : Int)), (7, .int .i64 ((k : Nat) : Int)), (26, .bool false)]) (trivial) ?_
      refine RP_pick [1, 5, 6, 7, 26] (by kernel_rfl : pick _ _ = some [(1, .slice d LL.length f), (5, .int .i64 mm), (6, .int .i64 ((i : Nat) : Int)), (7, .int .i64 ((k : Nat) : Int)), (26, .bool false)]) ?_
      refine RP_nil ?_
      refine n_then ?_
      refine W_false rfl ?_
      refine W_exit ?_
      refine e_then <| e_loop <| e_here ?_
      refine n_block ?_
      refine n_then ?_
      refine W_region ?_
      refine RP_seg 3 [.p (.int .i64 ((i : Nat) : Int)), .p (.int .i64 (IntKind.i64.wrap (((i : Nat) : Int) + 1))), .p (.int .i64 (IntKind.i64.wrap (((i : Nat) : Int) + 1)))] [1, 5, 6] (by kernel_rfl) (fun _ => by kernel_rfl) (by kernel_rfl : pick _ _ = some [(1, .slice d LL.length f), (5, .int .i64 mm), (6, .int .i64 (IntKind.i64.wrap (((i : Nat) : Int) + 1)))]) (trivial) ?_
      refine RP_pick [1, 5, 6] (by kernel_rfl : pick _ _ = some [(1, .slice d LL.length f), (5, .int .i64 mm), (6, .int .i64 (IntKind.i64.wrap (((i : Nat) : Int) + 1)))]) ?_
      refine RP_nil ?_
      -- back 1: [(1, .slice d LL.length f), (5, .int .i64 mm), (6, .int .i64 (IntKind.i64.wrap (((i : Nat) : Int) + 1)))]
      exact ⟨_, by omega, (i + 1), _, rfl, by rw [inc_b (n := i) (by omega)], st7, by omega⟩
  ·
    have c13_6p := of_decide_eq_false c13_6
    refine W_exit ?_
    refine e_then <| e_loop <| e_here ?_
    refine n_then ?_
    refine W_seq ?_
    refine W_region ?_
    refine RP_seg 3 [.p (.int .i64 nn), .p (.bool (decide (nn > 536870912))), .p (.bool (decide (nn > 536870912)))] [4] (by kernel_rfl) (fun _ => by kernel_rfl) (by kernel_rfl : pick _ _ = some [(4, .bool (decide (nn > 536870912)))]) (trivial) ?_
    refine RP_pick [4] (by kernel_rfl : pick _ _ = some [(4, .bool (decide (nn > 536870912)))]) ?_
    refine RP_nil ?_
    refine n_then ?_
    refine W_ret ?_
    refine ret_of (P := Tryd.prog) (fn := Tryd.f9) (m := [(4, .bool (decide (nn > 536870912)))]) (w := w5) (res1 rfl (rv_tmp rfl)) ?_
    -- return 0: .bool (decide (nn > 536870912))
    exact ⟨_, rfl, st4.ext⟩
theorem one_cr (p : Prt) (w : World) : CR Tryd.prog 10 [p.v] w fun v w' => ∃ b c, v = .slice b 1 c ∧ InS w' b (prtCells [p]) ∧ Ext [] w w' := by
  have st := St.init w []
  refine CR_enter Tryd.func10 rfl Tryd.ntmps10 rfl ?_
  refine W_seq ?_
  refine W_region ?_
  refine RP_e rfl (ef_box st rfl rfl) ?_
  rintro _ w1 ⟨g4, rfl, hg4, hg4', st2, hx3⟩
  replace st2 : St [] w w1 [(g4, 34, [.int .i64 p.k, .string p.r.lo, .string p.r.hi, .bool p.r.op, .int .i64 p.t.k, .int .u64 p.t.a, .int .u64 p.t.b, .slice p.eb p.es.length p.ec])] := st2
  refine RP_seg 1 [.p (.slice none 0 0)] [1] (by kernel_rfl) (fun _ => by kernel_rfl) (by kernel_rfl : pick _ _ = some [(1, .pointer (some ⟨g4, 0, none⟩))]) (trivial) ?_
  refine RP_pick [1] (by kernel_rfl : pick _ _ = some [(1, .pointer (some ⟨g4, 0, none⟩))]) ?_
  refine RP_nil ?_
  refine n_then ?_
  refine W_seq ?_
  refine W_region ?_
  refine RP_e rfl (ef_new (t := 34) (cs := []) (fun g => .slice (some ⟨g, 0, none⟩) 0 0) st2 rfl rfl (fun _ => by kernel_rfl)) ?_
  rintro _ w5 ⟨gb, rfl, hgb, hgb', st6, hx7⟩
  refine RP_seg 1 [.p (.slice (some ⟨gb, 0, none⟩) 0 0)] [1, 3] (by kernel_rfl) (fun _ => by kernel_rfl) (by kernel_rfl : pick _ _ = some [(1, .pointer (some ⟨g4, 0, none⟩)), (3, .slice (some ⟨gb, 0, none⟩) 0 0)]) (trivial) ?_
  refine RP_pick [1, 3] (by kernel_rfl : pick _ _ = some [(1, .pointer (some ⟨g4, 0, none⟩)), (3, .slice (some ⟨gb, 0, none⟩) 0 0)]) ?_
  refine RP_nil ?_
  refine n_then ?_
  refine W_seq ?_
  have hac := Acc.of_new (size := 8) (j := 0) st6 0 rfl rfl (show 0 ≤ maxLen by decide) hgb
  refine W_region ?_
  refine RP_seg 2 [.p (.slice (some ⟨gb, 0, none⟩) 0 0), .l 34 (.pointer (some ⟨g4, 0, none⟩)) (.agg #[.int .i64 p.k, .string p.r.lo, .string p.r.hi, .bool p.r.op, .int .i64 p.t.k, .int .u64 p.t.a, .int .u64 p.t.b, .slice p.eb p.es.length p.ec])] [5, 6] (by kernel_rfl) (fun _ => by kernel_rfl) (by kernel_rfl : pick _ _ = some [(5, .slice (some ⟨gb, 0, none⟩) 0 0), (6, .agg #[.int .i64 p.k, .string p.r.lo, .string p.r.hi, .bool p.r.op, .int .i64 p.t.k, .int .u64 p.t.a, .int .u64 p.t.b, .slice p.eb p.es.length p.ec])]) ⟨ldN st6 agg_34 1 rfl rfl rfl, trivial⟩ ?_
  refine RP_e rfl (ef_new (t := 34) (cs := [.int .i64 p.k, .string p.r.lo, .string p.r.hi, .bool p.r.op, .int .i64 p.t.k, .int .u64 p.t.a, .int .u64 p.t.b, .slice p.eb p.es.length p.ec]) (fun g => .slice (some ⟨g, 0, none⟩) 1 1) st6 rfl rfl (fun _ => by kernel_rfl)) ?_
  rintro _ w8 ⟨g11, rfl, hg11, hg11', st9, hx10⟩
  replace hac := hac.ext hx10 (by simp)
  refine RP_e rfl (ef_app appPart st9 hac rfl rfl 0 rfl rfl rfl (by simp only [maxLen]; omega) (by omega)) ?_
  rintro _ w12 ⟨v1, rfl, hac, st13, hx14⟩
  refine RP_seg 1 [.p (v1)] [2] (by kernel_rfl) (fun _ => by kernel_rfl) (by kernel_rfl : pick _ _ = some [(2, v1)]) (trivial) ?_
  refine RP_pick [2] (by kernel_rfl : pick _ _ = some [(2, v1)]) ?_
  refine RP_nil ?_
  refine n_then ?_
  refine W_ret ?_
  refine ret_of (P := Tryd.prog) (fn := Tryd.f10) (m := [(2, v1)]) (w := w12) (res1 rfl (rv_tmp rfl)) ?_
  -- return 0: v1
  exact (by obtain ⟨b1, c1, rfl⟩ := ownsRow.form' hac.own; exact ⟨b1, c1, rfl, InS.of_own hac.own, st13.ext⟩)
theorem right_cr {w : World} {b : Option Addr} {c : Nat} {L : List Ent} (node : Int) (hin : InS w b (entCells L)) :
    CR Tryd.prog 11 [.int .i64 node, .slice b L.length c] w fun v w' => v = .bool (loadErr node 1099511627776 L == 0) ∧ Ext [] w w' := by
  have st := St.init w []
  refine CR_enter Tryd.func11 rfl Tryd.ntmps11 rfl ?_
  refine W_seq ?_
  refine W_region ?_
  refine RP_seg 1 [.p (.bool false)] [0, 1] (by kernel_rfl) (fun _ => by kernel_rfl) (by kernel_rfl : pick _ _ = some [(0, .int .i64 node), (1, .slice b L.length c)]) (trivial) ?_
  refine RP_pick [0, 1] (by kernel_rfl : pick _ _ = some [(0, .int .i64 node), (1, .slice b L.length c)]) ?_
  refine RP_nil ?_
  refine n_then ?_
  refine W_seq ?_
  refine W_region ?_
  refine RP_seg 2 [.p (.int .i64 node), .p (.slice b L.length c)] [8, 9] (by kernel_rfl) (fun _ => by kernel_rfl) (by kernel_rfl : pick _ _ = some [(8, .int .i64 node), (9, .slice b L.length c)]) (trivial) ?_
  refine RP_e rfl (ef_call (k := 41) (args := [.int .i64 node, .int .i64 1099511627776, .slice b L.length c]) (refLoad_cr node 1099511627776 hin) body_41 (by kernel_rfl)) ?_
  rintro _ w1 ⟨_, rfl, u, rfl, hx3, -, -⟩
  have st2 := st.call0 hx3
  refine RP_seg 5 [.p (.tuple #[u, .int .i64 (loadErr node 1099511627776 L)]), .p (u), .p (.int .i64 (loadErr node 1099511627776 L)), .p (u), .p (.int .i64 (loadErr node 1099511627776 L))] [6] (by kernel_rfl) (fun _ => by kernel_rfl) (by kernel_rfl : pick _ _ = some [(6, .int .i64 (loadErr node 1099511627776 L))]) (trivial) ?_
  refine RP_pick [6] (by kernel_rfl : pick _ _ = some [(6, .int .i64 (loadErr node 1099511627776 L))]) ?_
  refine RP_nil ?_
  refine n_then ?_
  refine W_seq ?_
  refine W_region ?_
  refine RP_seg 3 [.p (.int .i64 (loadErr node 1099511627776 L)), .p (.bool ((loadErr node 1099511627776 L) == 0)), .p (.bool ((loadErr node 1099511627776 L) == 0))] [4] (by kernel_rfl) (fun _ => by kernel_rfl) (by kernel_rfl : pick _ _ = some [(4, .bool ((loadErr node 1099511627776 L) == 0))]) (trivial) ?_
  refine RP_pick [4] (by kernel_rfl : pick _ _ = some [(4, .bool ((loadErr node 1099511627776 L) == 0))]) ?_
  refine RP_nil ?_
  refine n_then ?_
  refine W_ret ?_
  refine ret_of (P := Tryd.prog) (fn := Tryd.f11) (m := [(4, .bool ((loadErr node 1099511627776 L) == 0))]) (w := w1) (res1 rfl (rv_tmp rfl)) ?_
  -- return 0: .bool ((loadErr node 1099511627776 L) == 0)
  exact ⟨rfl, st2.ext⟩
end Go.Proofs.YtcopemgkjbaaeaaDoor
