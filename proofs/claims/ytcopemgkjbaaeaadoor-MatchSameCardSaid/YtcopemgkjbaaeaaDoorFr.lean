/-
  frame: checkFields, checkEntries, CheckParts.
-/
import Derived.Test.YtcopemgkjbaaeaaDoorEqs
namespace Go.Proofs.YtcopemgkjbaaeaaDoor
set_option linter.all false
open Go.RowKit

structure Prt where
  k : Int
  r : Rng
  t : Tal
  es : List Ent
  eb : Option Addr
  ec : Nat
def Prt.cells (p : Prt) : List Value := [.int .i64 p.k, .string p.r.lo, .string p.r.hi, .bool p.r.op, .int .i64 p.t.k, .int .u64 p.t.a, .int .u64 p.t.b, .slice p.eb p.es.length p.ec]
def Prt.v (p : Prt) : Value := .agg p.cells.toArray
def prtCells (l : List Prt) : List Value := l.flatMap Prt.cells
theorem prtCells_len : ∀ l : List Prt, (prtCells l).length = l.length * 8
  | [] => rfl
  | e :: l => by have := prtCells_len l; simp only [prtCells, List.flatMap_cons, List.length_append, List.length_cons, Prt.cells, List.length_nil] at *; omega
theorem prtCells_at : ∀ {l : List Prt} {e : Prt} {n : Nat}, l[n]? = some e → ((prtCells l).drop (n * 8)).take 8 = e.cells
  | [], _, _, h => by simp at h
  | a :: l, e, 0, h => by simp at h; subst h; simp [prtCells, Prt.cells]
  | a :: l, e, n + 1, h => by
    have ih := prtCells_at (l := l) (e := e) (n := n) (by simpa using h)
    rw [← ih]
    simp only [prtCells, List.flatMap_cons, Prt.cells]
    rw [show (n + 1) * 8 = 8 + n * 8 from by omega, ← List.drop_drop]
    rfl
theorem prtCells_f {l : List Prt} {e : Prt} {n k : Nat} {v : Value} (h : l[n]? = some e) (hk : k < 8) (hv : e.cells[k]? = some v) : (prtCells l)[n * 8 + k]? = some v := by
  have := prtCells_at h
  rw [← this, List.getElem?_take, if_pos hk, List.getElem?_drop] at hv
  exact hv
theorem prtCells_0 {l : List Prt} {e : Prt} {n : Nat} {v : Value} (h : l[n]? = some e) (hv : e.cells[0]? = some v) : (prtCells l)[n * 8]? = some v := prtCells_f (k := 0) h (by decide) hv

def Prt.fields (p : Prt) : Int := cond (p.k == 1) (cond (((p.es.length : Nat) : Int) == 0) 0 114) (cond (p.k == 2 || p.k == 3) (cond (Tal.eq p.t Tal.zero) 0 114) 114)
theorem checkFields_cr (p : Prt) (w : World) : CR Tryd.prog 105 [p.v] w fun v w' => v = .int .i64 p.fields ∧ Ext [] w w' := by
  have st := St.init w []
  unfold Prt.fields
  refine CR_enter Tryd.func105 rfl Tryd.ntmps105 rfl ?_
  refine W_seq ?_
  refine W_region ?_
  refine RP_e rfl (ef_box st rfl rfl) ?_
  rintro _ w1 ⟨g4, rfl, hg4, hg4', st2, hx3⟩
  replace st2 : St [] w w1 [(g4, 34, [.int .i64 p.k, .string p.r.lo, .string p.r.hi, .bool p.r.op, .int .i64 p.t.k, .int .u64 p.t.a, .int .u64 p.t.b, .slice p.eb p.es.length p.ec])] := st2
  refine RP_seg 1 [.p (.int .i64 0)] [1] (by kernel_rfl) (fun _ => by kernel_rfl) (by kernel_rfl : pick _ _ = some [(1, .pointer (some ⟨g4, 0, none⟩))]) (trivial) ?_
  refine RP_pick [1] (by kernel_rfl : pick _ _ = some [(1, .pointer (some ⟨g4, 0, none⟩))]) ?_
  refine RP_nil ?_
  refine n_then ?_
  refine W_seq ?_
  refine W_seq ?_
  refine W_region ?_
  refine RP_seg 2 [.p (.pointer (some ⟨g4, 0, none⟩)), .l 3 (.pointer (some ⟨g4, 0, none⟩)) (.int .i64 p.k)] [1, 4] (by kernel_rfl) (fun _ => by kernel_rfl) (by kernel_rfl : pick _ _ = some [(1, .pointer (some ⟨g4, 0, none⟩)), (4, .int .i64 p.k)]) ⟨ld1 st2 nagg_3 0 rfl rfl, trivial⟩ ?_
  refine RP_pick [1, 4] (by kernel_rfl : pick _ _ = some [(1, .pointer (some ⟨g4, 0, none⟩)), (4, .int .i64 p.k)]) ?_
  refine RP_nil ?_
  refine n_then ?_
  refine W_block ?_
  refine W_seq ?_
  refine W_region ?_
  refine RP_seg 2 [.p (.bool (p.k == 1)), .p (.bool (p.k == 1))] [1, 4, 5] (by kernel_rfl) (fun _ => by kernel_rfl) (by kernel_rfl : pick _ _ = some [(1, .pointer (some ⟨g4, 0, none⟩)), (4, .int .i64 p.k), (5, .bool (p.k == 1))]) (trivial) ?_
  refine RP_pick [1, 4, 5] (by kernel_rfl : pick _ _ = some [(1, .pointer (some ⟨g4, 0, none⟩)), (4, .int .i64 p.k), (5, .bool (p.k == 1))]) ?_
  refine RP_nil ?_
  refine n_then ?_
  refine W_cond rfl (fun c5_5 => ?_) (fun c5_5 => ?_)
  ·
    refine W_seq ?_
    refine W_region ?_
    refine RP_seg 4 [.p (.pointer (some ⟨g4, 7, none⟩)), .l 22 (.pointer (some ⟨g4, 7, none⟩)) (.slice p.eb p.es.length p.ec), .p (.int .i64 ((p.es.length : Nat) : Int)), .p (.bool (((p.es.length : Nat) : Int) == 0))] [10] (by kernel_rfl) (fun _ => by kernel_rfl) (by kernel_rfl : pick _ _ = some [(10, .bool (((p.es.length : Nat) : Int) == 0))]) ⟨ld1 st2 nagg_22 0 rfl rfl, trivial⟩ ?_
    refine RP_pick [10] (by kernel_rfl : pick _ _ = some [(10, .bool (((p.es.length : Nat) : Int) == 0))]) ?_
    refine RP_nil ?_
    refine n_then ?_
    refine W_cond rfl (fun c10_6 => ?_) (fun c10_6 => ?_)
    ·
      refine W_seq ?_
      refine W_region ?_
      refine RP_seg 1 [.p (.int .i64 0)] [2] (by kernel_rfl) (fun _ => by kernel_rfl) (by kernel_rfl : pick _ _ = some [(2, .int .i64 0)]) (trivial) ?_
      refine RP_pick [2] (by kernel_rfl : pick _ _ = some [(2, .int .i64 0)]) ?_
      refine RP_nil ?_
      refine n_then ?_
      refine W_ret ?_
      refine r_block <| r_then ?_
      refine ret_of (P := Tryd.prog) (fn := Tryd.f105) (m := [(2, .int .i64 0)]) (w := w1) (res1 rfl (rv_tmp rfl)) ?_
      -- return 0: .int .i64 0
      exact ⟨by (try rw [c5_5]); (try rw [c10_6]); rfl, st2.ext⟩
    ·
      refine W_skip ?_
      refine n_block ?_
      refine n_then ?_
      refine W_seq ?_
      refine W_region ?_
      refine RP_seg 1 [.p (.int .i64 114)] [2] (by kernel_rfl) (fun _ => by kernel_rfl) (by kernel_rfl : pick _ _ = some [(2, .int .i64 114)]) (trivial) ?_
      refine RP_pick [2] (by kernel_rfl : pick _ _ = some [(2, .int .i64 114)]) ?_
      refine RP_nil ?_
      refine n_then ?_
      refine W_ret ?_
      refine ret_of (P := Tryd.prog) (fn := Tryd.f105) (m := [(2, .int .i64 114)]) (w := w1) (res1 rfl (rv_tmp rfl)) ?_
      -- return 1: .int .i64 114
      exact ⟨by (try rw [c5_5]); (try rw [c10_6]); rfl, st2.ext⟩
  ·
    refine W_seq ?_
    refine W_seq ?_
    refine W_region ?_
    refine RP_seg 2 [.p (.bool (p.k == 2)), .p (.bool (p.k == 2))] [1, 4, 11] (by kernel_rfl) (fun _ => by kernel_rfl) (by kernel_rfl : pick _ _ = some [(1, .pointer (some ⟨g4, 0, none⟩)), (4, .int .i64 p.k), (11, .bool (p.k == 2))]) (trivial) ?_
    refine RP_pick [1, 4, 11] (by kernel_rfl : pick _ _ = some [(1, .pointer (some ⟨g4, 0, none⟩)), (4, .int .i64 p.k), (11, .bool (p.k == 2))]) ?_
    refine RP_nil ?_
    refine n_then ?_
    refine W_cond rfl (fun c11_7 => ?_) (fun c11_7 => ?_)
    ·
      refine W_skip ?_
      refine n_then ?_
      refine W_true' rfl c11_7 ?_
      refine W_seq ?_
      refine W_region ?_
      refine RP_seg 3 [.p (.pointer (some ⟨g4, 4, none⟩)), .l 32 (.pointer (some ⟨g4, 4, none⟩)) (.agg #[.int .i64 p.t.k, .int .u64 p.t.a, .int .u64 p.t.b]), .p (.agg #[.int .i64 0, .int .u64 0, .int .u64 0])] [15, 16] (by kernel_rfl) (fun _ => by kernel_rfl) (by kernel_rfl : pick _ _ = some [(15, .agg #[.int .i64 p.t.k, .int .u64 p.t.a, .int .u64 p.t.b]), (16, .agg #[.int .i64 0, .int .u64 0, .int .u64 0])]) ⟨ldN st2 agg_32 0 rfl rfl rfl, trivial⟩ ?_
      refine RP_q rfl (v := .bool (Tal.eq p.t Tal.zero)) (ev_eql (eqTal p.t Tal.zero) (by decide) (by kernel_rfl) rfl rfl) ?_
      refine RP_pick [17] (by kernel_rfl : pick _ _ = some [(17, .bool (Tal.eq p.t Tal.zero))]) ?_
      refine RP_nil ?_
      refine n_then ?_
      refine W_cond rfl (fun c17_8 => ?_) (fun c17_8 => ?_)
      ·
        refine W_seq ?_
        refine W_region ?_
        refine RP_seg 1 [.p (.int .i64 0)] [2] (by kernel_rfl) (fun _ => by kernel_rfl) (by kernel_rfl : pick _ _ = some [(2, .int .i64 0)]) (trivial) ?_
        refine RP_pick [2] (by kernel_rfl : pick _ _ = some [(2, .int .i64 0)]) ?_
        refine RP_nil ?_
        refine n_then ?_
        refine W_ret ?_
        refine r_block <| r_then ?_
        refine ret_of (P := Tryd.prog) (fn := Tryd.f105) (m := [(2, .int .i64 0)]) (w := w1) (res1 rfl (rv_tmp rfl)) ?_
        -- return 2: .int .i64 0
        exact ⟨by (try rw [c5_5]); (try rw [c11_7]); (try rw [c17_8]); rfl, st2.ext⟩
      ·
        refine W_skip ?_
        refine n_block ?_
        refine n_then ?_
        refine W_seq ?_
        refine W_region ?_
        refine RP_seg 1 [.p (.int .i64 114)] [2] (by kernel_rfl) (fun _ => by kernel_rfl) (by kernel_rfl : pick _ _ = some [(2, .int .i64 114)]) (trivial) ?_
        refine RP_pick [2] (by kernel_rfl : pick _ _ = some [(2, .int .i64 114)]) ?_
        refine RP_nil ?_
        refine n_then ?_
        refine W_ret ?_
        refine ret_of (P := Tryd.prog) (fn := Tryd.f105) (m := [(2, .int .i64 114)]) (w := w1) (res1 rfl (rv_tmp rfl)) ?_
        -- return 3: .int .i64 114
        exact ⟨by (try rw [c5_5]); (try rw [c11_7]); (try rw [c17_8]); rfl, st2.ext⟩
    ·
      refine W_region ?_
      refine RP_seg 2 [.p (.bool (p.k == 3)), .p (.bool (p.k == 3))] [1, 11] (by kernel_rfl) (fun _ => by kernel_rfl) (by kernel_rfl : pick _ _ = some [(1, .pointer (some ⟨g4, 0, none⟩)), (11, .bool (p.k == 3))]) (trivial) ?_
      refine RP_pick [1, 11] (by kernel_rfl : pick _ _ = some [(1, .pointer (some ⟨g4, 0, none⟩)), (11, .bool (p.k == 3))]) ?_
      refine RP_nil ?_
      refine n_then ?_
      refine W_cond rfl (fun c11_9 => ?_) (fun c11_9 => ?_)
      ·
        refine W_seq ?_
        refine W_region ?_
        refine RP_seg 3 [.p (.pointer (some ⟨g4, 4, none⟩)), .l 32 (.pointer (some ⟨g4, 4, none⟩)) (.agg #[.int .i64 p.t.k, .int .u64 p.t.a, .int .u64 p.t.b]), .p (.agg #[.int .i64 0, .int .u64 0, .int .u64 0])] [15, 16] (by kernel_rfl) (fun _ => by kernel_rfl) (by kernel_rfl : pick _ _ = some [(15, .agg #[.int .i64 p.t.k, .int .u64 p.t.a, .int .u64 p.t.b]), (16, .agg #[.int .i64 0, .int .u64 0, .int .u64 0])]) ⟨ldN st2 agg_32 0 rfl rfl rfl, trivial⟩ ?_
        refine RP_q rfl (v := .bool (Tal.eq p.t Tal.zero)) (ev_eql (eqTal p.t Tal.zero) (by decide) (by kernel_rfl) rfl rfl) ?_
        refine RP_pick [17] (by kernel_rfl : pick _ _ = some [(17, .bool (Tal.eq p.t Tal.zero))]) ?_
        refine RP_nil ?_
        refine n_then ?_
        refine W_cond rfl (fun c17_10 => ?_) (fun c17_10 => ?_)
        ·
          refine W_seq ?_
          refine W_region ?_
          refine RP_seg 1 [.p (.int .i64 0)] [2] (by kernel_rfl) (fun _ => by kernel_rfl) (by kernel_rfl : pick _ _ = some [(2, .int .i64 0)]) (trivial) ?_
          refine RP_pick [2] (by kernel_rfl : pick _ _ = some [(2, .int .i64 0)]) ?_
          refine RP_nil ?_
          refine n_then ?_
          refine W_ret ?_
          refine r_block <| r_then ?_
          refine ret_of (P := Tryd.prog) (fn := Tryd.f105) (m := [(2, .int .i64 0)]) (w := w1) (res1 rfl (rv_tmp rfl)) ?_
          -- return 4: .int .i64 0
          exact ⟨by (try rw [c5_5]); (try rw [c11_7]); (try rw [c11_9]); (try rw [c17_10]); rfl, st2.ext⟩
        ·
          refine W_skip ?_
          refine n_block ?_
          refine n_then ?_
          refine W_seq ?_
          refine W_region ?_
          refine RP_seg 1 [.p (.int .i64 114)] [2] (by kernel_rfl) (fun _ => by kernel_rfl) (by kernel_rfl : pick _ _ = some [(2, .int .i64 114)]) (trivial) ?_
          refine RP_pick [2] (by kernel_rfl : pick _ _ = some [(2, .int .i64 114)]) ?_
          refine RP_nil ?_
          refine n_then ?_
          refine W_ret ?_
          refine ret_of (P := Tryd.prog) (fn := Tryd.f105) (m := [(2, .int .i64 114)]) (w := w1) (res1 rfl (rv_tmp rfl)) ?_
          -- return 5: .int .i64 114
          exact ⟨by (try rw [c5_5]); (try rw [c11_7]); (try rw [c11_9]); (try rw [c17_10]); rfl, st2.ext⟩
      ·
        refine W_skip ?_
        refine n_block ?_
        refine n_then ?_
        refine W_seq ?_
        refine W_region ?_
        refine RP_seg 1 [.p (.int .i64 114)] [2] (by kernel_rfl) (fun _ => by kernel_rfl) (by kernel_rfl : pick _ _ = some [(2, .int .i64 114)]) (trivial) ?_
        refine RP_pick [2] (by kernel_rfl : pick _ _ = some [(2, .int .i64 114)]) ?_
        refine RP_nil ?_
        refine n_then ?_
        refine W_ret ?_
        refine ret_of (P := Tryd.prog) (fn := Tryd.f105) (m := [(2, .int .i64 114)]) (w := w1) (res1 rfl (rv_tmp rfl)) ?_
        -- return 6: .int .i64 114
        exact ⟨by (try rw [c5_5]); (try rw [c11_7]); (try rw [c11_9]); rfl, st2.ext⟩
def entE (p : Prt) (q : Option Ent) (e : Ent) : Int := cond (e.check != 0) e.check (cond (!(p.r.holds e.key)) 116 (cond (match q with | some q => !(Op.bytesLess q.key.toList e.key.toList) | none => false) 116 0))
def entsE (p : Prt) : Option Ent → List Ent → Int
  | _, [] => 0
  | q, e :: l => cond (entE p q e != 0) (entE p q e) (entsE p (some e) l)
theorem entsE_drop (p : Prt) (l : List Ent) {i : Nat} {e : Ent} (he : l[i]? = some e) : entsE p (prevE l i) (l.drop i) = cond (entE p (prevE l i) e != 0) (entE p (prevE l i) e) (entsE p (prevE l (i + 1)) (l.drop (i + 1))) := by
  obtain ⟨h1, h2⟩ := List.getElem?_eq_some_iff.1 he
  rw [List.drop_eq_getElem_cons h1, h2, entsE]
  congr 2
  simp [prevE, he]
def Prt.entries (p : Prt) : Int := cond (entsE p none p.es != 0) (entsE p none p.es) (cond (p.k == 3 && (((p.es.length : Nat) : Int) == 0)) 116 0)

theorem checkEntries_cr {w : World} (p : Prt) (hin : InS w p.eb (entCells p.es)) (hlen : p.es.length < 1000000) : CR Tryd.prog 106 [p.v] w fun v w' => v = .int .i64 p.entries ∧ Ext [] w w' := by
  have st := St.init w []
  unfold Prt.entries
  refine CR_enter Tryd.func106 rfl Tryd.ntmps106 rfl ?_
  refine W_seq ?_
  refine W_region ?_
  refine RP_e rfl (ef_box st rfl rfl) ?_
  rintro _ w1 ⟨g4, rfl, hg4, hg4', st2, hx3⟩
  replace st2 : St [] w w1 [(g4, 34, [.int .i64 p.k, .string p.r.lo, .string p.r.hi, .bool p.r.op, .int .i64 p.t.k, .int .u64 p.t.a, .int .u64 p.t.b, .slice p.eb p.es.length p.ec])] := st2
  refine RP_seg 1 [.p (.int .i64 0)] [1] (by kernel_rfl) (fun _ => by kernel_rfl) (by kernel_rfl : pick _ _ = some [(1, .pointer (some ⟨g4, 0, none⟩))]) (trivial) ?_
  refine RP_pick [1] (by kernel_rfl : pick _ _ = some [(1, .pointer (some ⟨g4, 0, none⟩))]) ?_
  refine RP_nil ?_
  refine n_then ?_
  refine W_seq ?_
  refine W_seq ?_
  refine W_region ?_
  refine RP_seg 4 [.p (.pointer (some ⟨g4, 7, none⟩)), .l 22 (.pointer (some ⟨g4, 7, none⟩)) (.slice p.eb p.es.length p.ec), .p (.int .i64 ((p.es.length : Nat) : Int)), .p (.int .i64 0)] [1, 7, 8, 9] (by kernel_rfl) (fun _ => by kernel_rfl) (by kernel_rfl : pick _ _ = some [(1, .pointer (some ⟨g4, 0, none⟩)), (7, .slice p.eb p.es.length p.ec), (8, .int .i64 ((p.es.length : Nat) : Int)), (9, .int .i64 0)]) ⟨ld1 st2 nagg_22 0 rfl rfl, trivial⟩ ?_
  refine RP_pick [1, 7, 8, 9] (by kernel_rfl : pick _ _ = some [(1, .pointer (some ⟨g4, 0, none⟩)), (7, .slice p.eb p.es.length p.ec), (8, .int .i64 ((p.es.length : Nat) : Int)), (9, .int .i64 0)]) ?_
  refine RP_nil ?_
  refine n_then ?_
  refine W_block ?_
  refine W_loop (fun k_ m_ w_ => ∃ (i : Nat), p.es.length - i = k_ ∧ m_ = [(1, .pointer (some ⟨g4, 0, none⟩)), (7, .slice p.eb p.es.length p.ec), (8, .int .i64 ((p.es.length : Nat) : Int)), (9, .int .i64 ((i : Nat) : Int))] ∧ St [] w w_ [(g4, 34, [.int .i64 p.k, .string p.r.lo, .string p.r.hi, .bool p.r.op, .int .i64 p.t.k, .int .u64 p.t.a, .int .u64 p.t.b, .slice p.eb p.es.length p.ec])] ∧ i ≤ p.es.length ∧ entsE p (prevE p.es i) (p.es.drop i) = entsE p none p.es) ⟨0, rfl, rfl, st2, Nat.zero_le _, rfl⟩ ?_
  rintro _ _ w6 ⟨i, rfl, rfl, st5, hil, hle⟩
  refine W_seq ?_
  refine W_region ?_
  refine RP_seg 1 [.p (.bool (decide (((i : Nat) : Int) < ((p.es.length : Nat) : Int))))] [1, 7, 8, 9, 10] (by kernel_rfl) (fun _ => by kernel_rfl) (by kernel_rfl : pick _ _ = some [(1, .pointer (some ⟨g4, 0, none⟩)), (7, .slice p.eb p.es.length p.ec), (8, .int .i64 ((p.es.length : Nat) : Int)), (9, .int .i64 ((i : Nat) : Int)), (10, .bool (decide (((i : Nat) : Int) < ((p.es.length : Nat) : Int))))]) (trivial) ?_
  refine RP_pick [1, 7, 8, 9, 10] (by kernel_rfl : pick _ _ = some [(1, .pointer (some ⟨g4, 0, none⟩)), (7, .slice p.eb p.es.length p.ec), (8, .int .i64 ((p.es.length : Nat) : Int)), (9, .int .i64 ((i : Nat) : Int)), (10, .bool (decide (((i : Nat) : Int) < ((p.es.length : Nat) : Int))))]) ?_
  refine RP_nil ?_
  refine n_then ?_
  refine W_seq ?_
  refine W_cond rfl (fun c10_7 => ?_) (fun c10_7 => ?_)
  ·
    have c10_7p := of_decide_eq_true c10_7
    refine W_skip ?_
    refine n_then ?_
    refine W_seq ?_
    refine W_block ?_
    refine W_seq ?_
    refine W_region ?_
    refine RP_seg 1 [.p (.int .i64 ((i : Nat) : Int))] [1, 7, 8, 9, 11] (by kernel_rfl) (fun _ => by kernel_rfl) (by kernel_rfl : pick _ _ = some [(1, .pointer (some ⟨g4, 0, none⟩)), (7, .slice p.eb p.es.length p.ec), (8, .int .i64 ((p.es.length : Nat) : Int)), (9, .int .i64 ((i : Nat) : Int)), (11, .int .i64 ((i : Nat) : Int))]) (trivial) ?_
    have hlt : i < p.es.length := by omega
    obtain ⟨e, he⟩ : ∃ e, p.es[i]? = some e := ⟨p.es[i], by simp [hlt]⟩
    have hbs := hin.some_ (by rw [entCells_len]; omega)
    refine RP_q rfl (v := .pointer (some ⟨(sp p.eb), so p.eb + i * 5, none⟩)) (ev_indexI idxEnt rfl rfl hbs hlt) ?_
    refine RP_seg 1 [.l 61 (.pointer (some ⟨(sp p.eb), so p.eb + i * 5, none⟩)) (.agg #[.string e.key, .int .i64 e.c, .int .i64 e.n, .string e.val, .bool e.dead])] [1, 7, 8, 9, 11, 13] (by kernel_rfl) (fun _ => by kernel_rfl) (by kernel_rfl : pick _ _ = some [(1, .pointer (some ⟨g4, 0, none⟩)), (7, .slice p.eb p.es.length p.ec), (8, .int .i64 ((p.es.length : Nat) : Int)), (9, .int .i64 ((i : Nat) : Int)), (11, .int .i64 ((i : Nat) : Int)), (13, .agg #[.string e.key, .int .i64 e.c, .int .i64 e.n, .string e.val, .bool e.dead])]) ⟨InS.loadN agg_61 (hin.ext0 st5.ext) (entCells_at he) rfl (by decide), trivial⟩ ?_
    refine RP_e rfl (ef_alloc st5 zero_61 rfl) ?_
    rintro _ w8 ⟨g11, rfl, hg11, hg11', st9, hx10⟩
    replace st9 : St [] w w8 [(g11, 61, [.string (⟨#[]⟩ : ByteArray), .int .i64 0, .int .i64 0, .string (⟨#[]⟩ : ByteArray), .bool false]), (g4, 34, [.int .i64 p.k, .string p.r.lo, .string p.r.hi, .bool p.r.op, .int .i64 p.t.k, .int .u64 p.t.a, .int .u64 p.t.b, .slice p.eb p.es.length p.ec])] := st9
    refine RP_seg 1 [.p (.int .i64 ((i : Nat) : Int))] [1, 3, 4, 7, 8, 9, 13] (by kernel_rfl) (fun _ => by kernel_rfl) (by kernel_rfl : pick _ _ = some [(1, .pointer (some ⟨g4, 0, none⟩)), (3, .int .i64 ((i : Nat) : Int)), (4, .pointer (some ⟨g11, 0, none⟩)), (7, .slice p.eb p.es.length p.ec), (8, .int .i64 ((p.es.length : Nat) : Int)), (9, .int .i64 ((i : Nat) : Int)), (13, .agg #[.string e.key, .int .i64 e.c, .int .i64 e.n, .string e.val, .bool e.dead])]) (trivial) ?_
    refine RP_e rfl (ef_store st9 rfl rfl rfl size_61 0 rfl rfl rfl rfl (.inr hg11)) ?_
    rintro _ w12 ⟨rfl, st13, hx14⟩
    replace st13 : St [] w w12 [(g11, 61, [.string e.key, .int .i64 e.c, .int .i64 e.n, .string e.val, .bool e.dead]), (g4, 34, [.int .i64 p.k, .string p.r.lo, .string p.r.hi, .bool p.r.op, .int .i64 p.t.k, .int .u64 p.t.a, .int .u64 p.t.b, .slice p.eb p.es.length p.ec])] := st13
    refine RP_pick [1, 3, 4, 7, 8, 9] (by kernel_rfl : pick _ _ = some [(1, .pointer (some ⟨g4, 0, none⟩)), (3, .int .i64 ((i : Nat) : Int)), (4, .pointer (some ⟨g11, 0, none⟩)), (7, .slice p.eb p.es.length p.ec), (8, .int .i64 ((p.es.length : Nat) : Int)), (9, .int .i64 ((i : Nat) : Int))]) ?_
    refine RP_nil ?_
    refine n_then ?_
    refine W_seq ?_
    refine W_seq ?_
    refine W_region ?_
    refine RP_seg 1 [.l 61 (.pointer (some ⟨g11, 0, none⟩)) (.agg #[.string e.key, .int .i64 e.c, .int .i64 e.n, .string e.val, .bool e.dead])] [1, 3, 4, 7, 8, 9, 14] (by kernel_rfl) (fun _ => by kernel_rfl) (by kernel_rfl : pick _ _ = some [(1, .pointer (some ⟨g4, 0, none⟩)), (3, .int .i64 ((i : Nat) : Int)), (4, .pointer (some ⟨g11, 0, none⟩)), (7, .slice p.eb p.es.length p.ec), (8, .int .i64 ((p.es.length : Nat) : Int)), (9, .int .i64 ((i : Nat) : Int)), (14, .agg #[.string e.key, .int .i64 e.c, .int .i64 e.n, .string e.val, .bool e.dead])]) ⟨ldN st13 agg_61 0 rfl rfl rfl, trivial⟩ ?_
    refine RP_e rfl (ef_call (k := 63) (args := [.agg #[.string e.key, .int .i64 e.c, .int .i64 e.n, .string e.val, .bool e.dead]]) (itemCheck_cr e _) body_63 (by kernel_rfl)) ?_
    rintro _ w15 ⟨_, rfl, rfl, hx17⟩
    have st16 := st13.call0 hx17
    refine RP_seg 1 [.p (.int .i64 e.check)] [1, 3, 4, 5, 7, 8, 9] (by kernel_rfl) (fun _ => by kernel_rfl) (by kernel_rfl : pick _ _ = some [(1, .pointer (some ⟨g4, 0, none⟩)), (3, .int .i64 ((i : Nat) : Int)), (4, .pointer (some ⟨g11, 0, none⟩)), (5, .int .i64 e.check), (7, .slice p.eb p.es.length p.ec), (8, .int .i64 ((p.es.length : Nat) : Int)), (9, .int .i64 ((i : Nat) : Int))]) (trivial) ?_
    refine RP_pick [1, 3, 4, 5, 7, 8, 9] (by kernel_rfl : pick _ _ = some [(1, .pointer (some ⟨g4, 0, none⟩)), (3, .int .i64 ((i : Nat) : Int)), (4, .pointer (some ⟨g11, 0, none⟩)), (5, .int .i64 e.check), (7, .slice p.eb p.es.length p.ec), (8, .int .i64 ((p.es.length : Nat) : Int)), (9, .int .i64 ((i : Nat) : Int))]) ?_
    refine RP_nil ?_
    refine n_then ?_
    refine W_seq ?_
    refine W_region ?_
    refine RP_seg 2 [.p (.int .i64 e.check), .p (.bool (e.check != 0))] [1, 3, 4, 5, 7, 8, 9, 17] (by kernel_rfl) (fun _ => by kernel_rfl) (by kernel_rfl : pick _ _ = some [(1, .pointer (some ⟨g4, 0, none⟩)), (3, .int .i64 ((i : Nat) : Int)), (4, .pointer (some ⟨g11, 0, none⟩)), (5, .int .i64 e.check), (7, .slice p.eb p.es.length p.ec), (8, .int .i64 ((p.es.length : Nat) : Int)), (9, .int .i64 ((i : Nat) : Int)), (17, .bool (e.check != 0))]) (trivial) ?_
    refine RP_pick [1, 3, 4, 5, 7, 8, 9, 17] (by kernel_rfl : pick _ _ = some [(1, .pointer (some ⟨g4, 0, none⟩)), (3, .int .i64 ((i : Nat) : Int)), (4, .pointer (some ⟨g11, 0, none⟩)), (5, .int .i64 e.check), (7, .slice p.eb p.es.length p.ec), (8, .int .i64 ((p.es.length : Nat) : Int)), (9, .int .i64 ((i : Nat) : Int)), (17, .bool (e.check != 0))]) ?_
    refine RP_nil ?_
    refine n_then ?_
    refine W_cond rfl (fun c17_18 => ?_) (fun c17_18 => ?_)
    ·
      refine W_seq ?_
      refine W_region ?_
      refine RP_seg 2 [.p (.int .i64 e.check), .p (.int .i64 e.check)] [2] (by kernel_rfl) (fun _ => by kernel_rfl) (by kernel_rfl : pick _ _ = some [(2, .int .i64 e.check)]) (trivial) ?_
      refine RP_pick [2] (by kernel_rfl : pick _ _ = some [(2, .int .i64 e.check)]) ?_
      refine RP_nil ?_
      refine n_then ?_
      refine W_ret ?_
      refine r_then <| r_block <| r_then <| r_loop <| r_block <| r_then ?_
      have hok : entE p (prevE p.es i) e = e.check := by unfold entE;  (try rw [c17_18]); rfl
      have hnz : (e.check : Int) ≠ 0 := by simpa using c17_18
      have hz : entsE p none p.es = e.check := by rw [← hle, entsE_drop p p.es he, hok, show ((e.check : Int) != 0) = true from by simpa using hnz]; rfl
      refine ret_of (P := Tryd.prog) (fn := Tryd.f106) (m := [(2, .int .i64 e.check)]) (w := w15) (res1 rfl (rv_tmp rfl)) ?_
      -- return 0: .int .i64 e.check
      exact ⟨by rw [hz, show ((e.check : Int) != 0) = true from by simpa using hnz]; rfl, st16.ext⟩
    ·
      refine W_skip ?_
      refine n_then ?_
      refine W_seq ?_
      -- region 7 draws: [(1, 0), (1, 1), (1, 2), (1, 3), (2, 4), (1, 5), (1, 6), (1, 7), (1, 8), (1, 9), (1, 10), (1, 11), (1, 12), (1, 13), (1, 14), (1, 15), (1, 16), (1, 17), (1, 18), (1, 19), (1, 20), (1, 21)]
      refine W_regionS (fun w' => Blk w' g11 61 [.string e.key, .int .i64 e.c, .int .i64 e.n, .string e.val, .bool e.dead].toArray ∧ Blk w' g4 34 [.int .i64 p.k, .string p.r.lo, .string p.r.hi, .bool p.r.op, .int .i64 p.t.k, .int .u64 p.t.a, .int .u64 p.t.b, .slice p.eb p.es.length p.ec].toArray ∧ InS w' p.eb (entCells p.es)) [(1, 0), (1, 1), (1, 2), (1, 3), (2, 4), (1, 5), (1, 6), (1, 7), (1, 8), (1, 9), (1, 10), (1, 11), (1, 12), (1, 13), (1, 14), (1, 15), (1, 16), (1, 17), (1, 18), (1, 19), (1, 20), (1, 21)] 22 (by kernel_rfl) (by kernel_rfl) ?_
      have st19 := st16.drew
      refine RS_seg 4 [.p (.pointer (some ⟨g4, 1, none⟩)), .l 24 (.pointer (some ⟨g4, 1, none⟩)) (.agg #[.string p.r.lo, .string p.r.hi, .bool p.r.op]), .p (.pointer (some ⟨g11, 0, none⟩)), .l 9 (.pointer (some ⟨g11, 0, none⟩)) (.string e.key)] [1, 3, 4, 7, 8, 9, 20, 22] (by kernel_rfl) (by kernel_rfl) (⟨st19.get 0 rfl, st19.get 1 rfl, hin.ext0 st19.ext⟩) (by kernel_rfl) (fun _ => by kernel_rfl) (by kernel_rfl : pick _ _ = some [(1, .pointer (some ⟨g4, 0, none⟩)), (3, .int .i64 ((i : Nat) : Int)), (4, .pointer (some ⟨g11, 0, none⟩)), (7, .slice p.eb p.es.length p.ec), (8, .int .i64 ((p.es.length : Nat) : Int)), (9, .int .i64 ((i : Nat) : Int)), (20, .agg #[.string p.r.lo, .string p.r.hi, .bool p.r.op]), (22, .string e.key)]) (fun _ hS => ⟨ldNb (hS.2.1) agg_24 rfl rfl, ld1b (hS.1) nagg_9 rfl, trivial⟩) ?_
      refine RS_e rfl rfl (ef_call (k := 58) (args := [.agg #[.string p.r.lo, .string p.r.hi, .bool p.r.op], .string e.key]) (spanHolds_cr p.r e.key _) body_58 (by kernel_rfl)) ?_
      rintro _ w20 ⟨_, rfl, rfl, hx22⟩
      have st21 := st19.call0 hx22
      refine ⟨⟨st21.get 0 rfl, st21.get 1 rfl, hin.ext0 st21.ext⟩, ?_⟩
      refine RS_seg 2 [.p (.bool (!(p.r.holds e.key))), .p (.bool (!(p.r.holds e.key)))] [1, 3, 4, 7, 8, 9, 25] (by kernel_rfl) (by kernel_rfl) (⟨st21.get 0 rfl, st21.get 1 rfl, hin.ext0 st21.ext⟩) (by kernel_rfl) (fun _ => by kernel_rfl) (by kernel_rfl : pick _ _ = some [(1, .pointer (some ⟨g4, 0, none⟩)), (3, .int .i64 ((i : Nat) : Int)), (4, .pointer (some ⟨g11, 0, none⟩)), (7, .slice p.eb p.es.length p.ec), (8, .int .i64 ((p.es.length : Nat) : Int)), (9, .int .i64 ((i : Nat) : Int)), (25, .bool (!(p.r.holds e.key)))]) (fun _ hS => trivial) ?_
      rcases Bool.eq_false_or_eq_true (!(p.r.holds e.key)) with c25_23 | c25_23
      ·
        refine RS_at (m' := [(1, .pointer (some ⟨g4, 0, none⟩)), (3, .int .i64 ((i : Nat) : Int)), (4, .pointer (some ⟨g11, 0, none⟩)), (7, .slice p.eb p.es.length p.ec), (8, .int .i64 ((p.es.length : Nat) : Int)), (9, .int .i64 ((i : Nat) : Int)), (25, .bool true)]) (by rw [c25_23]) ?_
        refine RS_seg 15 [.no, .no, .no, .no, .no, .no, .no, .no, .no, .no, .no, .no, .no, .no, .p (.bool true)] [1, 7, 8, 9, 40] (by kernel_rfl) (by kernel_rfl) (⟨st21.get 0 rfl, st21.get 1 rfl, hin.ext0 st21.ext⟩) (by kernel_rfl) (fun _ => by kernel_rfl) (by kernel_rfl : pick _ _ = some [(1, .pointer (some ⟨g4, 0, none⟩)), (7, .slice p.eb p.es.length p.ec), (8, .int .i64 ((p.es.length : Nat) : Int)), (9, .int .i64 ((i : Nat) : Int)), (40, .bool true)]) (fun _ hS => trivial) ?_
        refine RS_pick [1, 7, 8, 9, 40] (by kernel_rfl : pick _ _ = some [(1, .pointer (some ⟨g4, 0, none⟩)), (7, .slice p.eb p.es.length p.ec), (8, .int .i64 ((p.es.length : Nat) : Int)), (9, .int .i64 ((i : Nat) : Int)), (40, .bool true)]) ?_
        refine RS_nil ?_
        refine n_then ?_
        refine W_true rfl ?_
        refine W_seq ?_
        refine W_region ?_
        refine RP_seg 1 [.p (.int .i64 116)] [2] (by kernel_rfl) (fun _ => by kernel_rfl) (by kernel_rfl : pick _ _ = some [(2, .int .i64 116)]) (trivial) ?_
        refine RP_pick [2] (by kernel_rfl : pick _ _ = some [(2, .int .i64 116)]) ?_
        refine RP_nil ?_
        refine n_then ?_
        refine W_ret ?_
        refine r_block <| r_then <| r_loop <| r_block <| r_then ?_
        have hok : entE p (prevE p.es i) e = 116 := by unfold entE;  (try rw [c17_18]); (try rw [c25_23]); rfl
        have hnz : (116 : Int) ≠ 0 := (by decide : (116 : Int) ≠ 0)
        have hz : entsE p none p.es = 116 := by rw [← hle, entsE_drop p p.es he, hok, show ((116 : Int) != 0) = true from by simpa using hnz]; rfl
        refine ret_of (P := Tryd.prog) (fn := Tryd.f106) (m := [(2, .int .i64 116)]) (w := w20) (res1 rfl (rv_tmp rfl)) ?_
        -- return 1: .int .i64 116
        exact ⟨by rw [hz, show ((116 : Int) != 0) = true from by simpa using hnz]; rfl, st21.ext⟩
      ·
        refine RS_at (m' := [(1, .pointer (some ⟨g4, 0, none⟩)), (3, .int .i64 ((i : Nat) : Int)), (4, .pointer (some ⟨g11, 0, none⟩)), (7, .slice p.eb p.es.length p.ec), (8, .int .i64 ((p.es.length : Nat) : Int)), (9, .int .i64 ((i : Nat) : Int)), (25, .bool false)]) (by rw [c25_23]) ?_
        refine RS_seg 3 [.p (.int .i64 ((i : Nat) : Int)), .p (.bool (decide (((i : Nat) : Int) > 0))), .p (.bool (decide (((i : Nat) : Int) > 0)))] [1, 3, 4, 7, 8, 9, 25, 28] (by kernel_rfl) (by kernel_rfl) (⟨st21.get 0 rfl, st21.get 1 rfl, hin.ext0 st21.ext⟩) (by kernel_rfl) (fun _ => by kernel_rfl) (by kernel_rfl : pick _ _ = some [(1, .pointer (some ⟨g4, 0, none⟩)), (3, .int .i64 ((i : Nat) : Int)), (4, .pointer (some ⟨g11, 0, none⟩)), (7, .slice p.eb p.es.length p.ec), (8, .int .i64 ((p.es.length : Nat) : Int)), (9, .int .i64 ((i : Nat) : Int)), (25, .bool false), (28, .bool (decide (((i : Nat) : Int) > 0)))]) (fun _ hS => trivial) ?_
        rcases Bool.eq_false_or_eq_true (decide (((i : Nat) : Int) > 0)) with c28_24 | c28_24
        ·
          have c28_24p := of_decide_eq_true c28_24
          refine RS_at (m' := [(1, .pointer (some ⟨g4, 0, none⟩)), (3, .int .i64 ((i : Nat) : Int)), (4, .pointer (some ⟨g11, 0, none⟩)), (7, .slice p.eb p.es.length p.ec), (8, .int .i64 ((p.es.length : Nat) : Int)), (9, .int .i64 ((i : Nat) : Int)), (25, .bool false), (28, .bool true)]) (by rw [c28_24]) ?_
          refine RS_seg 4 [.p (.pointer (some ⟨g4, 7, none⟩)), .l 22 (.pointer (some ⟨g4, 7, none⟩)) (.slice p.eb p.es.length p.ec), .p (.int .i64 ((i : Nat) : Int)), .p (.int .i64 (IntKind.i64.wrap (((i : Nat) : Int) - 1)))] [1, 4, 7, 8, 9, 25, 28, 30, 32] (by kernel_rfl) (by kernel_rfl) (⟨st21.get 0 rfl, st21.get 1 rfl, hin.ext0 st21.ext⟩) (by kernel_rfl) (fun _ => by kernel_rfl) (by kernel_rfl : pick _ _ = some [(1, .pointer (some ⟨g4, 0, none⟩)), (4, .pointer (some ⟨g11, 0, none⟩)), (7, .slice p.eb p.es.length p.ec), (8, .int .i64 ((p.es.length : Nat) : Int)), (9, .int .i64 ((i : Nat) : Int)), (25, .bool false), (28, .bool true), (30, .slice p.eb p.es.length p.ec), (32, .int .i64 (IntKind.i64.wrap (((i : Nat) : Int) - 1)))]) (fun _ hS => ⟨ld1b (hS.2.1) nagg_22 rfl, trivial⟩) ?_
          refine RS_at (m' := [(1, .pointer (some ⟨g4, 0, none⟩)), (4, .pointer (some ⟨g11, 0, none⟩)), (7, .slice p.eb p.es.length p.ec), (8, .int .i64 ((p.es.length : Nat) : Int)), (9, .int .i64 ((i : Nat) : Int)), (25, .bool false), (28, .bool true), (30, .slice p.eb p.es.length p.ec), (32, .int .i64 (((i - 1) : Nat) : Int))]) (by rw [show IntKind.i64.wrap (((i : Nat) : Int) - 1) = ((i - 1 : Nat) : Int) by rw [wrap_in (by omega) (by omega)]; omega]) ?_
          obtain ⟨e0, he0⟩ : ∃ e, p.es[i - 1]? = some e := ⟨p.es[i - 1], by simp⟩
          refine RS_gq rfl rfl rfl (⟨st21.get 0 rfl, st21.get 1 rfl, hin.ext0 st21.ext⟩) (v := .pointer (some ⟨(sp p.eb), so p.eb + (i - 1) * 5, none⟩)) (fun _ _ => ev_indexI idxEnt rfl rfl hbs (by omega)) ?_
          refine RS_seg 7 [.p (.pointer (some ⟨(sp p.eb), so p.eb + (i - 1) * 5, none⟩)), .l 9 (.pointer (some ⟨(sp p.eb), so p.eb + (i - 1) * 5, none⟩)) (.string e0.key), .p (.pointer (some ⟨g11, 0, none⟩)), .l 9 (.pointer (some ⟨g11, 0, none⟩)) (.string e.key), .p (.bool (!(Op.bytesLess (e0.key).toList (e.key).toList))), .p (.bool (!(Op.bytesLess (e0.key).toList (e.key).toList))), .p (.bool (!(Op.bytesLess (e0.key).toList (e.key).toList)))] [1, 7, 8, 9, 40] (by kernel_rfl) (by kernel_rfl) (⟨st21.get 0 rfl, st21.get 1 rfl, hin.ext0 st21.ext⟩) (by kernel_rfl) (fun _ => by kernel_rfl) (by kernel_rfl : pick _ _ = some [(1, .pointer (some ⟨g4, 0, none⟩)), (7, .slice p.eb p.es.length p.ec), (8, .int .i64 ((p.es.length : Nat) : Int)), (9, .int .i64 ((i : Nat) : Int)), (40, .bool (!(Op.bytesLess (e0.key).toList (e.key).toList)))]) (fun _ hS => ⟨(InS.load1 nagg_9 (hS.2.2) (entCells_0 he0 rfl)), ld1b (hS.1) nagg_9 rfl, trivial⟩) ?_
          refine RS_pick [1, 7, 8, 9, 40] (by kernel_rfl : pick _ _ = some [(1, .pointer (some ⟨g4, 0, none⟩)), (7, .slice p.eb p.es.length p.ec), (8, .int .i64 ((p.es.length : Nat) : Int)), (9, .int .i64 ((i : Nat) : Int)), (40, .bool (!(Op.bytesLess (e0.key).toList (e.key).toList)))]) ?_
          refine RS_nil ?_
          refine n_then ?_
          refine W_cond rfl (fun c40_25 => ?_) (fun c40_25 => ?_)
          ·
            refine W_seq ?_
            refine W_region ?_
            refine RP_seg 1 [.p (.int .i64 116)] [2] (by kernel_rfl) (fun _ => by kernel_rfl) (by kernel_rfl : pick _ _ = some [(2, .int .i64 116)]) (trivial) ?_
            refine RP_pick [2] (by kernel_rfl : pick _ _ = some [(2, .int .i64 116)]) ?_
            refine RP_nil ?_
            refine n_then ?_
            refine W_ret ?_
            refine r_block <| r_then <| r_loop <| r_block <| r_then ?_
            have hp : prevE p.es i = some e0 := by unfold prevE; rw [if_neg (by omega)]; exact he0
            have hok : entE p (prevE p.es i) e = 116 := by unfold entE; (try rw [hp]); (try dsimp only); (try rw [c17_18]); (try rw [c25_23]); (try rw [c40_25]); rfl
            have hnz : (116 : Int) ≠ 0 := (by decide : (116 : Int) ≠ 0)
            have hz : entsE p none p.es = 116 := by rw [← hle, entsE_drop p p.es he, hok, show ((116 : Int) != 0) = true from by simpa using hnz]; rfl
            refine ret_of (P := Tryd.prog) (fn := Tryd.f106) (m := [(2, .int .i64 116)]) (w := w20) (res1 rfl (rv_tmp rfl)) ?_
            -- return 2: .int .i64 116
            exact ⟨by rw [hz, show ((116 : Int) != 0) = true from by simpa using hnz]; rfl, st21.ext⟩
          ·
            refine W_skip ?_
            refine n_block ?_
            refine n_then ?_
            refine W_region ?_
            refine RP_seg 2 [.p (.int .i64 (IntKind.i64.wrap (((i : Nat) : Int) + 1))), .p (.int .i64 (IntKind.i64.wrap (((i : Nat) : Int) + 1)))] [1, 7, 8, 9] (by kernel_rfl) (fun _ => by kernel_rfl) (by kernel_rfl : pick _ _ = some [(1, .pointer (some ⟨g4, 0, none⟩)), (7, .slice p.eb p.es.length p.ec), (8, .int .i64 ((p.es.length : Nat) : Int)), (9, .int .i64 (IntKind.i64.wrap (((i : Nat) : Int) + 1)))]) (trivial) ?_
            refine RP_pick [1, 7, 8, 9] (by kernel_rfl : pick _ _ = some [(1, .pointer (some ⟨g4, 0, none⟩)), (7, .slice p.eb p.es.length p.ec), (8, .int .i64 ((p.es.length : Nat) : Int)), (9, .int .i64 (IntKind.i64.wrap (((i : Nat) : Int) + 1)))]) ?_
            refine RP_nil ?_
            have hp : prevE p.es i = some e0 := by unfold prevE; rw [if_neg (by omega)]; exact he0
            have hok : entE p (prevE p.es i) e = 0 := by unfold entE; (try rw [hp]); (try dsimp only); (try rw [c17_18]); (try rw [c25_23]); (try rw [c40_25]); rfl
            have hz : entsE p (prevE p.es (i + 1)) (p.es.drop (i + 1)) = entsE p none p.es := by rw [← hle, entsE_drop p p.es he, hok]; rfl
            -- back 0: [(1, .pointer (some ⟨g4, 0, none⟩)), (7, .slice p.eb p.es.length p.ec), (8, .int .i64 ((p.es.length : Nat) : Int)), (9, .int .i64 (IntKind.i64.wrap (((i : Nat) : Int) + 1)))]
            exact ⟨_, by omega, (i + 1), rfl, by rw [inc_w (n := i) (by omega)], st21.sub [] (List.sublist_cons_self _ _), by omega, hz⟩
        ·
          have c28_24p := of_decide_eq_false c28_24
          refine RS_at (m' := [(1, .pointer (some ⟨g4, 0, none⟩)), (3, .int .i64 ((i : Nat) : Int)), (4, .pointer (some ⟨g11, 0, none⟩)), (7, .slice p.eb p.es.length p.ec), (8, .int .i64 ((p.es.length : Nat) : Int)), (9, .int .i64 ((i : Nat) : Int)), (25, .bool false), (28, .bool false)]) (by rw [c28_24]) ?_
          refine RS_seg 12 [.no, .no, .no, .no, .no, .no, .no, .no, .no, .no, .p (.bool false), .p (.bool false)] [1, 7, 8, 9, 40] (by kernel_rfl) (by kernel_rfl) (⟨st21.get 0 rfl, st21.get 1 rfl, hin.ext0 st21.ext⟩) (by kernel_rfl) (fun _ => by kernel_rfl) (by kernel_rfl : pick _ _ = some [(1, .pointer (some ⟨g4, 0, none⟩)), (7, .slice p.eb p.es.length p.ec), (8, .int .i64 ((p.es.length : Nat) : Int)), (9, .int .i64 ((i : Nat) : Int)), (40, .bool false)]) (fun _ hS => trivial) ?_
          refine RS_pick [1, 7, 8, 9, 40] (by kernel_rfl : pick _ _ = some [(1, .pointer (some ⟨g4, 0, none⟩)), (7, .slice p.eb p.es.length p.ec), (8, .int .i64 ((p.es.length : Nat) : Int)), (9, .int .i64 ((i : Nat) : Int)), (40, .bool false)]) ?_
          refine RS_nil ?_
          refine n_then ?_
          refine W_false rfl ?_
          refine W_skip ?_
          refine n_block ?_
          refine n_then ?_
          refine W_region ?_
          refine RP_seg 2 [.p (.int .i64 (IntKind.i64.wrap (((i : Nat) : Int) + 1))), .p (.int .i64 (IntKind.i64.wrap (((i : Nat) : Int) + 1)))] [1, 7, 8, 9] (by kernel_rfl) (fun _ => by kernel_rfl) (by kernel_rfl : pick _ _ = some [(1, .pointer (some ⟨g4, 0, none⟩)), (7, .slice p.eb p.es.length p.ec), (8, .int .i64 ((p.es.length : Nat) : Int)), (9, .int .i64 (IntKind.i64.wrap (((i : Nat) : Int) + 1)))]) (trivial) ?_
          refine RP_pick [1, 7, 8, 9] (by kernel_rfl : pick _ _ = some [(1, .pointer (some ⟨g4, 0, none⟩)), (7, .slice p.eb p.es.length p.ec), (8, .int .i64 ((p.es.length : Nat) : Int)), (9, .int .i64 (IntKind.i64.wrap (((i : Nat) : Int) + 1)))]) ?_
          refine RP_nil ?_
          have hp : prevE p.es i = none := by unfold prevE; rw [if_pos (by omega)]
          have hok : entE p (prevE p.es i) e = 0 := by unfold entE; (try rw [hp]); (try dsimp only); (try rw [c17_18]); (try rw [c25_23]); rfl
          have hz : entsE p (prevE p.es (i + 1)) (p.es.drop (i + 1)) = entsE p none p.es := by rw [← hle, entsE_drop p p.es he, hok]; rfl
          -- back 1: [(1, .pointer (some ⟨g4, 0, none⟩)), (7, .slice p.eb p.es.length p.ec), (8, .int .i64 ((p.es.length : Nat) : Int)), (9, .int .i64 (IntKind.i64.wrap (((i : Nat) : Int) + 1)))]
          exact ⟨_, by omega, (i + 1), rfl, by rw [inc_w (n := i) (by omega)], st21.sub [] (List.sublist_cons_self _ _), by omega, hz⟩
  ·
    have c10_7p := of_decide_eq_false c10_7
    refine W_exit ?_
    refine e_then <| e_loop <| e_here ?_
    refine n_then ?_
    refine W_seq ?_
    refine W_seq ?_
    refine W_region ?_
    refine RP_seg 4 [.p (.pointer (some ⟨g4, 0, none⟩)), .l 3 (.pointer (some ⟨g4, 0, none⟩)) (.int .i64 p.k), .p (.bool (p.k == 3)), .p (.bool (p.k == 3))] [1, 45] (by kernel_rfl) (fun _ => by kernel_rfl) (by kernel_rfl : pick _ _ = some [(1, .pointer (some ⟨g4, 0, none⟩)), (45, .bool (p.k == 3))]) ⟨ld1 st5 nagg_3 0 rfl rfl, trivial⟩ ?_
    rcases Bool.eq_false_or_eq_true (p.k == 3) with c45_26 | c45_26
    ·
      refine RP_at (m' := [(1, .pointer (some ⟨g4, 0, none⟩)), (45, .bool true)]) (by rw [c45_26]) ?_
      refine RP_seg 5 [.p (.pointer (some ⟨g4, 7, none⟩)), .l 22 (.pointer (some ⟨g4, 7, none⟩)) (.slice p.eb p.es.length p.ec), .p (.int .i64 ((p.es.length : Nat) : Int)), .p (.bool (((p.es.length : Nat) : Int) == 0)), .p (.bool (((p.es.length : Nat) : Int) == 0))] [50] (by kernel_rfl) (fun _ => by kernel_rfl) (by kernel_rfl : pick _ _ = some [(50, .bool (((p.es.length : Nat) : Int) == 0))]) ⟨ld1 st5 nagg_22 0 rfl rfl, trivial⟩ ?_
      refine RP_pick [50] (by kernel_rfl : pick _ _ = some [(50, .bool (((p.es.length : Nat) : Int) == 0))]) ?_
      refine RP_nil ?_
      refine n_then ?_
      refine W_cond rfl (fun c50_27 => ?_) (fun c50_27 => ?_)
      ·
        refine W_seq ?_
        refine W_region ?_
        refine RP_seg 1 [.p (.int .i64 116)] [2] (by kernel_rfl) (fun _ => by kernel_rfl) (by kernel_rfl : pick _ _ = some [(2, .int .i64 116)]) (trivial) ?_
        refine RP_pick [2] (by kernel_rfl : pick _ _ = some [(2, .int .i64 116)]) ?_
        refine RP_nil ?_
        refine n_then ?_
        refine W_ret ?_
        refine r_then ?_
        have hiL : i = p.es.length := by omega
        rw [hiL, List.drop_length] at hle
        have hz : entsE p none p.es = 0 := hle.symm
        refine ret_of (P := Tryd.prog) (fn := Tryd.f106) (m := [(2, .int .i64 116)]) (w := w6) (res1 rfl (rv_tmp rfl)) ?_
        -- return 3: .int .i64 116
        exact ⟨by rw [hz]; (try rw [c10_7]); (try rw [c45_26]); (try rw [c50_27]); rfl, st5.ext⟩
      ·
        refine W_skip ?_
        refine n_then ?_
        refine W_seq ?_
        refine W_region ?_
        refine RP_seg 1 [.p (.int .i64 0)] [2] (by kernel_rfl) (fun _ => by kernel_rfl) (by kernel_rfl : pick _ _ = some [(2, .int .i64 0)]) (trivial) ?_
        refine RP_pick [2] (by kernel_rfl : pick _ _ = some [(2, .int .i64 0)]) ?_
        refine RP_nil ?_
        refine n_then ?_
        refine W_ret ?_
        have hiL : i = p.es.length := by omega
        rw [hiL, List.drop_length] at hle
        have hz : entsE p none p.es = 0 := hle.symm
        refine ret_of (P := Tryd.prog) (fn := Tryd.f106) (m := [(2, .int .i64 0)]) (w := w6) (res1 rfl (rv_tmp rfl)) ?_
        -- return 4: .int .i64 0
        exact ⟨by rw [hz]; (try rw [c10_7]); (try rw [c45_26]); (try rw [c50_27]); rfl, st5.ext⟩
    ·
      refine RP_at (m' := [(1, .pointer (some ⟨g4, 0, none⟩)), (45, .bool false)]) (by rw [c45_26]) ?_
      refine RP_seg 5 [.no, .no, .no, .no, .p (.bool false)] [50] (by kernel_rfl) (fun _ => by kernel_rfl) (by kernel_rfl : pick _ _ = some [(50, .bool false)]) (trivial) ?_
      refine RP_pick [50] (by kernel_rfl : pick _ _ = some [(50, .bool false)]) ?_
      refine RP_nil ?_
      refine n_then ?_
      refine W_false rfl ?_
      refine W_skip ?_
      refine n_then ?_
      refine W_seq ?_
      refine W_region ?_
      refine RP_seg 1 [.p (.int .i64 0)] [2] (by kernel_rfl) (fun _ => by kernel_rfl) (by kernel_rfl : pick _ _ = some [(2, .int .i64 0)]) (trivial) ?_
      refine RP_pick [2] (by kernel_rfl : pick _ _ = some [(2, .int .i64 0)]) ?_
      refine RP_nil ?_
      refine n_then ?_
      refine W_ret ?_
      have hiL : i = p.es.length := by omega
      rw [hiL, List.drop_length] at hle
      have hz : entsE p none p.es = 0 := hle.symm
      refine ret_of (P := Tryd.prog) (fn := Tryd.f106) (m := [(2, .int .i64 0)]) (w := w6) (res1 rfl (rv_tmp rfl)) ?_
      -- return 5: .int .i64 0
      exact ⟨by rw [hz]; (try rw [c10_7]); (try rw [c45_26]); rfl, st5.ext⟩
end Go.Proofs.YtcopemgkjbaaeaaDoor
