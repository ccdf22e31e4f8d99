import Derived.Test.YtcopemgkjbaaeaaDoorMm3
import Derived.Test.YtcopemgkjbaaeaaDoorMm1
namespace Go.Proofs.YtcopemgkjbaaeaaDoor
set_option linter.all false
open Go.RowKit
structure Doc (w : World) (gd : Nat) (node clock : Int) (b : Option Addr) (c : Nat) (L : List Ent) : Prop where
  blk : Blk w gd 167 #[.int .i64 node, .int .i64 clock, .slice b L.length c]
  own : w.ownsRow 0 61 5 (.slice b L.length c) L.length (entCells L)
theorem Doc.ins {w : World} {gd : Nat} {node clock : Int} {b : Option Addr} {c : Nat} {L : List Ent} (h : Doc w gd node clock b c L) : InS w b (entCells L) := InS.of_own h.own
theorem Doc.ext {w w' : World} {X : List Nat} {gd : Nat} {node clock : Int} {b : Option Addr} {c : Nat} {L : List Ent} (h : Doc w gd node clock b c L) (hx : Ext X w w') (h1 : gd ∉ X) (h2 : ∀ q ∈ ownB (.slice b L.length c), q ∉ X) : Doc w' gd node clock b c L :=
  ⟨h.blk.ext hx h1, ownsRow.ext h.own hx h2⟩
theorem refLoad_cr {w : World} {b : Option Addr} {c : Nat} {L : List Ent} (node clock : Int) (hin : InS w b (entCells L)) :
    CR Tryd.prog 41 [.int .i64 node, .int .i64 clock, .slice b L.length c] w fun v w' => ∃ u, v = .tuple #[u, .int .i64 (loadErr node clock L)] ∧ Ext [] w w' ∧ (loadErr node clock L ≠ 0 → u = .pointer none) ∧
      (loadErr node clock L = 0 → ∃ gd b' c', u = .pointer (some ⟨gd, 0, none⟩) ∧ Doc w' gd node clock b' c' L ∧ w.heap.size ≤ gd ∧ (∀ q ∈ ownB (.slice b' L.length c'), w.heap.size ≤ q)) := by
  have st := St.init w []
  unfold loadErr
  refine CR_enter Tryd.func41 rfl Tryd.ntmps41 rfl ?_
  refine W_seq <| W_region ?_
  let a1 : Value := .slice b L.length c
  refine RP_sg 2 [.p (.pointer none), .p (.int .i64 0)] [(0, .int .i64 node), (1, .int .i64 clock), (2, a1)] trivial ?_
  refine RP_nil <| n_then <| W_seq <| W_seq <| W_region <| RP_sg 3 [.p (.int .i64 node), .p (.bool (decide (node < 0))), .p (.bool (decide (node < 0)))] [(0, .int .i64 node), (1, .int .i64 clock), (2, a1), (13, .bool (decide (node < 0)))] trivial ?_
  rcases Bool.eq_false_or_eq_true (decide (node < 0)) with c13_2 | c13_2
  ·
   have c13_2p := of_decide_eq_true c13_2
   refine RP_at (m' := [(0, .int .i64 node), (1, .int .i64 clock), (2, a1), (13, .bool true)]) (by rw [c13_2]) ?_
   refine RP_sg 11 [.no, .no, .p (.bool true), .p (.bool true), .no, .no, .p (.bool true), .p (.bool true), .no, .no, .p (.bool true)] [(0, .int .i64 node), (1, .int .i64 clock), (2, a1), (24, .bool true)] trivial ?_
   refine RP_nil <| n_then <| W_true rfl ?_
   refine W_seq <| W_region <| RP_sg 2 [.p (.pointer none), .p (.int .i64 1)] [(6, .pointer none), (7, .int .i64 1)] trivial ?_
   refine RP_nil <| n_then <| W_ret <| r_then ?_
   refine ret_of (P := Tryd.prog) (fn := Tryd.f41) (m := [(6, .pointer none), (7, .int .i64 1)]) (w := w) (res2 rfl (rv_tmp rfl) (rv_tmp rfl)) ?_
   exact ⟨_, by (try rw [c13_2]); rfl, st.ext, fun _ => rfl, fun h => absurd h (by (try rw [c13_2]); exact (by decide : (1 : Int) ≠ 0))⟩
  ·
   have c13_2p := of_decide_eq_false c13_2
   refine RP_at (m' := [(0, .int .i64 node), (1, .int .i64 clock), (2, a1), (13, .bool false)]) (by rw [c13_2]) ?_
   refine RP_sg 4 [.p (.int .i64 node), .p (.bool (decide (node ≥ 8))), .p (.bool (decide (node ≥ 8))), .p (.bool (decide (node ≥ 8)))] [(0, .int .i64 node), (1, .int .i64 clock), (2, a1), (17, .bool (decide (node ≥ 8)))] trivial ?_
   rcases Bool.eq_false_or_eq_true (decide (node ≥ 8)) with c17_3 | c17_3
   ·
    have c17_3p := of_decide_eq_true c17_3
    refine RP_at (m' := [(0, .int .i64 node), (1, .int .i64 clock), (2, a1), (17, .bool true)]) (by rw [c17_3]) ?_
    refine RP_sg 7 [.no, .no, .p (.bool true), .p (.bool true), .no, .no, .p (.bool true)] [(0, .int .i64 node), (1, .int .i64 clock), (2, a1), (24, .bool true)] trivial ?_
    refine RP_nil <| n_then <| W_true rfl ?_
    refine W_seq <| W_region <| RP_sg 2 [.p (.pointer none), .p (.int .i64 1)] [(6, .pointer none), (7, .int .i64 1)] trivial ?_
    refine RP_nil <| n_then <| W_ret <| r_then ?_
    refine ret_of (P := Tryd.prog) (fn := Tryd.f41) (m := [(6, .pointer none), (7, .int .i64 1)]) (w := w) (res2 rfl (rv_tmp rfl) (rv_tmp rfl)) ?_
    exact ⟨_, by (try rw [c13_2]); (try rw [c17_3]); rfl, st.ext, fun _ => rfl, fun h => absurd h (by (try rw [c13_2]); (try rw [c17_3]); exact (by decide : (1 : Int) ≠ 0))⟩
   ·
    have c17_3p := of_decide_eq_false c17_3
    refine RP_at (m' := [(0, .int .i64 node), (1, .int .i64 clock), (2, a1), (17, .bool false)]) (by rw [c17_3]) ?_
    refine RP_sg 4 [.p (.int .i64 clock), .p (.bool (decide (clock < 0))), .p (.bool (decide (clock < 0))), .p (.bool (decide (clock < 0)))] [(0, .int .i64 node), (1, .int .i64 clock), (2, a1), (21, .bool (decide (clock < 0)))] trivial ?_
    rcases Bool.eq_false_or_eq_true (decide (clock < 0)) with c21_4 | c21_4
    ·
     have c21_4p := of_decide_eq_true c21_4
     refine RP_at (m' := [(0, .int .i64 node), (1, .int .i64 clock), (2, a1), (21, .bool true)]) (by rw [c21_4]) ?_
     refine RP_sg 3 [.no, .no, .p (.bool true)] [(0, .int .i64 node), (1, .int .i64 clock), (2, a1), (24, .bool true)] trivial ?_
     refine RP_nil <| n_then <| W_true rfl ?_
     refine W_seq <| W_region <| RP_sg 2 [.p (.pointer none), .p (.int .i64 1)] [(6, .pointer none), (7, .int .i64 1)] trivial ?_
     refine RP_nil <| n_then <| W_ret <| r_then ?_
     refine ret_of (P := Tryd.prog) (fn := Tryd.f41) (m := [(6, .pointer none), (7, .int .i64 1)]) (w := w) (res2 rfl (rv_tmp rfl) (rv_tmp rfl)) ?_
     exact ⟨_, by (try rw [c13_2]); (try rw [c17_3]); (try rw [c21_4]); rfl, st.ext, fun _ => rfl, fun h => absurd h (by (try rw [c13_2]); (try rw [c17_3]); (try rw [c21_4]); exact (by decide : (1 : Int) ≠ 0))⟩
    ·
     have c21_4p := of_decide_eq_false c21_4
     refine RP_at (m' := [(0, .int .i64 node), (1, .int .i64 clock), (2, a1), (21, .bool false)]) (by rw [c21_4]) ?_
     refine RP_sg 3 [.p (.int .i64 clock), .p (.bool (decide (clock > 1099511627776))), .p (.bool (decide (clock > 1099511627776)))] [(0, .int .i64 node), (1, .int .i64 clock), (2, a1), (24, .bool (decide (clock > 1099511627776)))] trivial ?_
     refine RP_nil <| n_then <| W_cond rfl (fun c24_5 => ?_) (fun c24_5 => ?_)
     ·
      have c24_5p := of_decide_eq_true c24_5
      refine W_seq <| W_region <| RP_sg 2 [.p (.pointer none), .p (.int .i64 1)] [(6, .pointer none), (7, .int .i64 1)] trivial ?_
      refine RP_nil <| n_then <| W_ret <| r_then ?_
      refine ret_of (P := Tryd.prog) (fn := Tryd.f41) (m := [(6, .pointer none), (7, .int .i64 1)]) (w := w) (res2 rfl (rv_tmp rfl) (rv_tmp rfl)) ?_
      exact ⟨_, by (try rw [c13_2]); (try rw [c17_3]); (try rw [c21_4]); (try rw [c24_5]); rfl, st.ext, fun _ => rfl, fun h => absurd h (by (try rw [c13_2]); (try rw [c17_3]); (try rw [c21_4]); (try rw [c24_5]); exact (by decide : (1 : Int) ≠ 0))⟩
     ·
      have c24_5p := of_decide_eq_false c24_5
      refine W_skip <| n_then <| W_seq <| W_seq <| W_region <| RP_sg 3 [.p a1, .p (.int .i64 ((L.length : Nat) : Int)), .p (.bool (decide (((L.length : Nat) : Int) > 256)))] [(0, .int .i64 node), (1, .int .i64 clock), (2, a1), (27, .bool (decide (((L.length : Nat) : Int) > 256)))] trivial ?_
      refine RP_nil <| n_then <| W_cond rfl (fun c27_6 => ?_) (fun c27_6 => ?_)
      ·
       have c27_6p := of_decide_eq_true c27_6
       refine W_seq <| W_region <| RP_sg 2 [.p (.pointer none), .p (.int .i64 80)] [(6, .pointer none), (7, .int .i64 80)] trivial ?_
       refine RP_nil <| n_then <| W_ret <| r_then ?_
       refine ret_of (P := Tryd.prog) (fn := Tryd.f41) (m := [(6, .pointer none), (7, .int .i64 80)]) (w := w) (res2 rfl (rv_tmp rfl) (rv_tmp rfl)) ?_
       exact ⟨_, by (try rw [c13_2]); (try rw [c17_3]); (try rw [c21_4]); (try rw [c24_5]); (try rw [c27_6]); rfl, st.ext, fun _ => rfl, fun h => absurd h (by (try rw [c13_2]); (try rw [c17_3]); (try rw [c21_4]); (try rw [c24_5]); (try rw [c27_6]); exact (by decide : (80 : Int) ≠ 0))⟩
      ·
       have c27_6p := of_decide_eq_false c27_6
       refine W_skip <| n_then <| W_seq <| W_seq <| W_region <| RP_sg 3 [.p a1, .p (.int .i64 ((L.length : Nat) : Int)), .p (.int .i64 0)] [(0, .int .i64 node), (1, .int .i64 clock), (2, a1), (28, a1), (29, .int .i64 ((L.length : Nat) : Int)), (30, .int .i64 0)] trivial ?_
       refine RP_nil <| n_then <| W_block <| W_loop (fun k_ m_ w_ => ∃ (i : Nat), L.length - i = k_ ∧ m_ = [(0, .int .i64 node), (1, .int .i64 clock), (2, a1), (28, a1), (29, .int .i64 ((L.length : Nat) : Int)), (30, .int .i64 ((i : Nat) : Int))] ∧ St [] w w_ [] ∧ i ≤ L.length ∧ loadE clock (prevE L i) (L.drop i) = loadE clock none L) ⟨0, rfl, rfl, st, Nat.zero_le _, rfl⟩ ?_
       rintro _ _ w8 ⟨i, rfl, rfl, st7, hil, hle⟩
       refine W_seq <| W_region <| RP_sg 1 [.p (.bool (decide (((i : Nat) : Int) < ((L.length : Nat) : Int))))] [(0, .int .i64 node), (1, .int .i64 clock), (2, a1), (28, a1), (29, .int .i64 ((L.length : Nat) : Int)), (30, .int .i64 ((i : Nat) : Int)), (31, .bool (decide (((i : Nat) : Int) < ((L.length : Nat) : Int))))] trivial ?_
       refine RP_nil <| n_then <| W_seq <| W_cond rfl (fun c31_9 => ?_) (fun c31_9 => ?_)
       ·
        have c31_9p := of_decide_eq_true c31_9
        refine W_skip <| n_then <| W_seq <| W_block <| W_seq <| W_region <| RP_sg 1 [.p (.int .i64 ((i : Nat) : Int))] [(0, .int .i64 node), (1, .int .i64 clock), (2, a1), (28, a1), (29, .int .i64 ((L.length : Nat) : Int)), (30, .int .i64 ((i : Nat) : Int)), (32, .int .i64 ((i : Nat) : Int))] trivial ?_
        have hlt : i < L.length := by omega
        obtain ⟨e, he⟩ : ∃ e, L[i]? = some e := ⟨L[i], by simp [hlt]⟩
        have hbs := hin.some_ (by rw [entCells_len]; omega)
        refine RP_q rfl (v := .pointer (some ⟨(sp b), so b + i * 5, none⟩)) (ev_indexI idxEnt rfl rfl hbs hlt) ?_
        let a10 : Value := .agg #[.string e.key, .int .i64 e.c, .int .i64 e.n, .string e.val, .bool e.dead]
        refine RP_sg 1 [.l 61 (.pointer (some ⟨(sp b), so b + i * 5, none⟩)) a10] [(0, .int .i64 node), (1, .int .i64 clock), (2, a1), (28, a1), (29, .int .i64 ((L.length : Nat) : Int)), (30, .int .i64 ((i : Nat) : Int)), (32, .int .i64 ((i : Nat) : Int)), (34, a10)] ⟨InS.loadN agg_61 (hin.ext0 st7.ext) (entCells_at he) rfl (by decide), trivial⟩ ?_
        refine RP_e rfl (ef_alloc st7 zero_61 rfl) ?_
        rintro _ w11 ⟨g10, rfl, hg10, hg10', st12, hx13⟩
        replace st12 : St [] w w11 [(g10, 61, [.string (⟨#[]⟩ : ByteArray), .int .i64 0, .int .i64 0, .string (⟨#[]⟩ : ByteArray), .bool false])] := st12
        let a14 : Value := .pointer (some ⟨g10, 0, none⟩)
        refine RP_sg 1 [.p (.int .i64 ((i : Nat) : Int))] [(0, .int .i64 node), (1, .int .i64 clock), (2, a1), (8, .int .i64 ((i : Nat) : Int)), (9, a14), (28, a1), (29, .int .i64 ((L.length : Nat) : Int)), (30, .int .i64 ((i : Nat) : Int)), (34, a10)] trivial ?_
        refine RP_e rfl (ef_store st12 rfl rfl rfl size_61 0 rfl rfl rfl rfl (.inr hg10)) ?_
        rintro _ w15 ⟨rfl, st16, hx17⟩
        replace st16 : St [] w w15 [(g10, 61, [.string e.key, .int .i64 e.c, .int .i64 e.n, .string e.val, .bool e.dead])] := st16
        refine RP_pk [(0, .int .i64 node), (1, .int .i64 clock), (2, a1), (8, .int .i64 ((i : Nat) : Int)), (9, a14), (28, a1), (29, .int .i64 ((L.length : Nat) : Int)), (30, .int .i64 ((i : Nat) : Int))] ?_
        refine RP_nil <| n_then <| W_seq <| W_seq <| W_region <| RP_sg 1 [.l 61 a14 a10] [(0, .int .i64 node), (1, .int .i64 clock), (2, a1), (8, .int .i64 ((i : Nat) : Int)), (9, a14), (28, a1), (29, .int .i64 ((L.length : Nat) : Int)), (30, .int .i64 ((i : Nat) : Int)), (35, a10)] ⟨ldN st16 agg_61 0 rfl rfl rfl, trivial⟩ ?_
        refine RP_e rfl (ef_call (k := 98) (args := [a10]) (ref03_cr e _) body_98 (by kernel_rfl)) ?_
        rintro _ w18 ⟨_, rfl, rfl, hx20⟩
        have st19 := st16.call0 hx20
        refine RP_sg 1 [.p (.int .i64 e.check)] [(0, .int .i64 node), (1, .int .i64 clock), (2, a1), (8, .int .i64 ((i : Nat) : Int)), (9, a14), (10, .int .i64 e.check), (28, a1), (29, .int .i64 ((L.length : Nat) : Int)), (30, .int .i64 ((i : Nat) : Int))] trivial ?_
        refine RP_nil <| n_then <| W_seq <| W_region <| RP_sg 2 [.p (.int .i64 e.check), .p (.bool (e.check != 0))] [(0, .int .i64 node), (1, .int .i64 clock), (2, a1), (8, .int .i64 ((i : Nat) : Int)), (9, a14), (10, .int .i64 e.check), (28, a1), (29, .int .i64 ((L.length : Nat) : Int)), (30, .int .i64 ((i : Nat) : Int)), (38, .bool (e.check != 0))] trivial ?_
        refine RP_nil <| n_then <| W_cond rfl (fun c38_21 => ?_) (fun c38_21 => ?_)
        ·
         refine W_seq <| W_region <| RP_sg 3 [.p (.int .i64 e.check), .p (.pointer none), .p (.int .i64 e.check)] [(6, .pointer none), (7, .int .i64 e.check)] trivial ?_
         refine RP_nil <| n_then <| W_ret <| r_then <| r_block <| r_then <| r_loop <| r_block <| r_then ?_
         have hok : okE clock (prevE L i) e = e.check := by unfold okE; rw [c38_21]; rfl
         have hnz : (e.check : Int) ≠ 0 := by simpa using c38_21
         have hz : loadE clock none L = e.check := by rw [← hle, loadE_drop clock L he, hok, show ((e.check : Int) != 0) = true from by simpa using hnz]; rfl
         refine ret_of (P := Tryd.prog) (fn := Tryd.f41) (m := [(6, .pointer none), (7, .int .i64 e.check)]) (w := w18) (res2 rfl (rv_tmp rfl) (rv_tmp rfl)) ?_
         exact ⟨_, by (try rw [c13_2]); (try rw [c17_3]); (try rw [c21_4]); (try rw [c24_5]); (try rw [c27_6]); (try rw [c31_9]); (try rw [c38_21]); rw [hz]; rfl, st19.ext, fun _ => rfl, fun h => absurd h (by (try rw [c13_2]); (try rw [c17_3]); (try rw [c21_4]); (try rw [c24_5]); (try rw [c27_6]); (try rw [c31_9]); (try rw [c38_21]); rw [hz]; exact hnz)⟩
        ·
         refine W_skip <| n_then <| W_seq <| W_seq <| W_regionS ⟨(fun w' => Blk w' g10 61 [.string e.key, .int .i64 e.c, .int .i64 e.n, .string e.val, .bool e.dead].toArray ∧ InS w' b (entCells L)), (fun _ => True)⟩ (.cons 1 0 (.cons 1 1 (.cons 1 2 (.cons 1 3 (.cons 1 4 (.cons 1 5 (.cons 1 6 (.cons 1 7 (.cons 1 8 (.cons 1 9 (.cons 1 10 (.cons 1 11 (.cons 1 12 .nil))))))))))))) 13 (by kernel_rfl) (by kernel_rfl) ?_
         have st22 := st19.drew
         refine RS_sg 3 [.p (.int .i64 ((i : Nat) : Int)), .p (.bool (decide (((i : Nat) : Int) > 0))), .p (.bool (decide (((i : Nat) : Int) > 0)))] [(0, .int .i64 node), (1, .int .i64 clock), (2, a1), (8, .int .i64 ((i : Nat) : Int)), (9, a14), (28, a1), (29, .int .i64 ((L.length : Nat) : Int)), (30, .int .i64 ((i : Nat) : Int)), (42, .bool (decide (((i : Nat) : Int) > 0)))] (⟨st22.get 0 rfl, hin.ext0 st22.ext⟩) (fun _ hS => trivial) ?_
         rcases Bool.eq_false_or_eq_true (decide (((i : Nat) : Int) > 0)) with c42_23 | c42_23
         ·
          have c42_23p := of_decide_eq_true c42_23
          refine RS_at (m' := [(0, .int .i64 node), (1, .int .i64 clock), (2, a1), (8, .int .i64 ((i : Nat) : Int)), (9, a14), (28, a1), (29, .int .i64 ((L.length : Nat) : Int)), (30, .int .i64 ((i : Nat) : Int)), (42, .bool true)]) (by rw [c42_23]) ?_
          refine RS_sg 5 [.p a14, .l 9 a14 (.string e.key), .p a1, .p (.int .i64 ((i : Nat) : Int)), .p (.int .i64 (IntKind.i64.wrap (((i : Nat) : Int) - 1)))] [(0, .int .i64 node), (1, .int .i64 clock), (2, a1), (9, a14), (28, a1), (29, .int .i64 ((L.length : Nat) : Int)), (30, .int .i64 ((i : Nat) : Int)), (42, .bool true), (44, .string e.key), (45, a1), (47, .int .i64 (IntKind.i64.wrap (((i : Nat) : Int) - 1)))] (⟨st22.get 0 rfl, hin.ext0 st22.ext⟩) (fun _ hS => ⟨ld1b (hS.1) nagg_9 rfl, trivial⟩) ?_
          refine RS_at (m' := [(0, .int .i64 node), (1, .int .i64 clock), (2, a1), (9, a14), (28, a1), (29, .int .i64 ((L.length : Nat) : Int)), (30, .int .i64 ((i : Nat) : Int)), (42, .bool true), (44, .string e.key), (45, a1), (47, .int .i64 (((i - 1) : Nat) : Int))]) (by rw [show IntKind.i64.wrap (((i : Nat) : Int) - 1) = ((i - 1 : Nat) : Int) by rw [wrap_in (by omega) (by omega)]; omega]) ?_
          obtain ⟨e0, he0⟩ : ∃ e, L[i - 1]? = some e := ⟨L[i - 1], by simp⟩
          refine RS_gq rfl rfl rfl (⟨st22.get 0 rfl, hin.ext0 st22.ext⟩) (v := .pointer (some ⟨(sp b), so b + (i - 1) * 5, none⟩)) (fun _ _ => ev_indexI idxEnt rfl rfl hbs (by omega)) ?_
          refine RS_sg 4 [.p (.pointer (some ⟨(sp b), so b + (i - 1) * 5, none⟩)), .l 9 (.pointer (some ⟨(sp b), so b + (i - 1) * 5, none⟩)) (.string e0.key), .p (.bool (Op.bytesLess (e.key).toList (e0.key).toList || (e.key).toList == (e0.key).toList)), .p (.bool (Op.bytesLess (e.key).toList (e0.key).toList || (e.key).toList == (e0.key).toList))] [(0, .int .i64 node), (1, .int .i64 clock), (2, a1), (9, a14), (28, a1), (29, .int .i64 ((L.length : Nat) : Int)), (30, .int .i64 ((i : Nat) : Int)), (52, .bool (Op.bytesLess (e.key).toList (e0.key).toList || (e.key).toList == (e0.key).toList))] (⟨st22.get 0 rfl, hin.ext0 st22.ext⟩) (fun _ hS => ⟨(InS.load1 nagg_9 (hS.2) (entCells_0 he0 rfl)), trivial⟩) ?_
          refine RS_nil <| n_then <| W_cond rfl (fun c52_24 => ?_) (fun c52_24 => ?_)
          ·
           refine W_seq <| W_region <| RP_sg 2 [.p (.pointer none), .p (.int .i64 90)] [(6, .pointer none), (7, .int .i64 90)] trivial ?_
           refine RP_nil <| n_then <| W_ret <| r_then <| r_block <| r_then <| r_loop <| r_block <| r_then ?_
           have hp : prevE L i = some e0 := by unfold prevE; rw [if_neg (by omega)]; exact he0
           have hkk := c52_24
           rw [blt_total] at hkk
           have hok : okE clock (prevE L i) e = 90 := by unfold okE; rw [c38_21, hp]; (try dsimp only); (try rw [hkk]); rfl
           have hnz : (90 : Int) ≠ 0 := (by decide : (90 : Int) ≠ 0)
           have hz : loadE clock none L = 90 := by rw [← hle, loadE_drop clock L he, hok, show ((90 : Int) != 0) = true from by simpa using hnz]; rfl
           refine ret_of (P := Tryd.prog) (fn := Tryd.f41) (m := [(6, .pointer none), (7, .int .i64 90)]) (w := w18.drew) (res2 rfl (rv_tmp rfl) (rv_tmp rfl)) ?_
           exact ⟨_, by (try rw [c13_2]); (try rw [c17_3]); (try rw [c21_4]); (try rw [c24_5]); (try rw [c27_6]); (try rw [c31_9]); (try rw [c38_21]); (try rw [c42_23]); (try rw [c52_24]); rw [hz]; rfl, st22.ext, fun _ => rfl, fun h => absurd h (by (try rw [c13_2]); (try rw [c17_3]); (try rw [c21_4]); (try rw [c24_5]); (try rw [c27_6]); (try rw [c31_9]); (try rw [c38_21]); (try rw [c42_23]); (try rw [c52_24]); rw [hz]; exact hnz)⟩
          ·
           refine W_skip <| n_then <| W_seq <| W_region <| RP_sg 5 [.p (.pointer (some ⟨g10, 1, none⟩)), .p (.pointer (some ⟨g10, 1, none⟩)), .l 3 (.pointer (some ⟨g10, 1, none⟩)) (.int .i64 e.c), .p (.int .i64 clock), .p (.bool (decide (e.c > clock)))] [(0, .int .i64 node), (1, .int .i64 clock), (2, a1), (28, a1), (29, .int .i64 ((L.length : Nat) : Int)), (30, .int .i64 ((i : Nat) : Int)), (57, .bool (decide (e.c > clock)))] ⟨ld1 st22 nagg_3 0 rfl rfl, trivial⟩ ?_
           refine RP_nil <| n_then <| W_cond rfl (fun c57_25 => ?_) (fun c57_25 => ?_)
           ·
            have c57_25p := of_decide_eq_true c57_25
            refine W_seq <| W_region <| RP_sg 2 [.p (.pointer none), .p (.int .i64 30)] [(6, .pointer none), (7, .int .i64 30)] trivial ?_
            refine RP_nil <| n_then <| W_ret <| r_block <| r_then <| r_loop <| r_block <| r_then ?_
            have hp : prevE L i = some e0 := by unfold prevE; rw [if_neg (by omega)]; exact he0
            have hkk := c52_24
            rw [blt_total] at hkk
            have hok : okE clock (prevE L i) e = 30 := by unfold okE; rw [c38_21, hp]; (try dsimp only); (try rw [hkk]); (try rw [c57_25]); rfl
            have hnz : (30 : Int) ≠ 0 := (by decide : (30 : Int) ≠ 0)
            have hz : loadE clock none L = 30 := by rw [← hle, loadE_drop clock L he, hok, show ((30 : Int) != 0) = true from by simpa using hnz]; rfl
            refine ret_of (P := Tryd.prog) (fn := Tryd.f41) (m := [(6, .pointer none), (7, .int .i64 30)]) (w := w18.drew) (res2 rfl (rv_tmp rfl) (rv_tmp rfl)) ?_
            exact ⟨_, by (try rw [c13_2]); (try rw [c17_3]); (try rw [c21_4]); (try rw [c24_5]); (try rw [c27_6]); (try rw [c31_9]); (try rw [c38_21]); (try rw [c42_23]); (try rw [c52_24]); (try rw [c57_25]); rw [hz]; rfl, st22.ext, fun _ => rfl, fun h => absurd h (by (try rw [c13_2]); (try rw [c17_3]); (try rw [c21_4]); (try rw [c24_5]); (try rw [c27_6]); (try rw [c31_9]); (try rw [c38_21]); (try rw [c42_23]); (try rw [c52_24]); (try rw [c57_25]); rw [hz]; exact hnz)⟩
           ·
            have c57_25p := of_decide_eq_false c57_25
            refine W_skip <| n_block <| n_then <| W_region <| RP_sg 2 [.p (.int .i64 (IntKind.i64.wrap (((i : Nat) : Int) + 1))), .p (.int .i64 (IntKind.i64.wrap (((i : Nat) : Int) + 1)))] [(0, .int .i64 node), (1, .int .i64 clock), (2, a1), (28, a1), (29, .int .i64 ((L.length : Nat) : Int)), (30, .int .i64 (IntKind.i64.wrap (((i : Nat) : Int) + 1)))] trivial ?_
            refine RP_nil ?_
            have hp : prevE L i = some e0 := by unfold prevE; rw [if_neg (by omega)]; exact he0
            have hkk := c52_24
            rw [blt_total] at hkk
            have hok : okE clock (prevE L i) e = 0 := by unfold okE; rw [c38_21, hp]; (try dsimp only); (try rw [hkk]); (try rw [c57_25]); rfl
            have hz : loadE clock (prevE L (i + 1)) (L.drop (i + 1)) = loadE clock none L := by rw [← hle, loadE_drop clock L he, hok]; rfl
            exact ⟨_, by omega, (i + 1), rfl, by rw [inc_w (n := i) (by omega)], st22.sub [] (List.sublist_cons_self _ _), by omega, hz⟩
         ·
          have c42_23p := of_decide_eq_false c42_23
          refine RS_at (m' := [(0, .int .i64 node), (1, .int .i64 clock), (2, a1), (8, .int .i64 ((i : Nat) : Int)), (9, a14), (28, a1), (29, .int .i64 ((L.length : Nat) : Int)), (30, .int .i64 ((i : Nat) : Int)), (42, .bool false)]) (by rw [c42_23]) ?_
          refine RS_sg 10 [.no, .no, .no, .no, .no, .no, .no, .no, .no, .p (.bool false)] [(0, .int .i64 node), (1, .int .i64 clock), (2, a1), (9, a14), (28, a1), (29, .int .i64 ((L.length : Nat) : Int)), (30, .int .i64 ((i : Nat) : Int)), (52, .bool false)] (⟨st22.get 0 rfl, hin.ext0 st22.ext⟩) (fun _ hS => trivial) ?_
          refine RS_nil <| n_then <| W_false rfl ?_
          refine W_skip <| n_then <| W_seq <| W_region <| RP_sg 5 [.p (.pointer (some ⟨g10, 1, none⟩)), .p (.pointer (some ⟨g10, 1, none⟩)), .l 3 (.pointer (some ⟨g10, 1, none⟩)) (.int .i64 e.c), .p (.int .i64 clock), .p (.bool (decide (e.c > clock)))] [(0, .int .i64 node), (1, .int .i64 clock), (2, a1), (28, a1), (29, .int .i64 ((L.length : Nat) : Int)), (30, .int .i64 ((i : Nat) : Int)), (57, .bool (decide (e.c > clock)))] ⟨ld1 st22 nagg_3 0 rfl rfl, trivial⟩ ?_
          refine RP_nil <| n_then <| W_cond rfl (fun c57_26 => ?_) (fun c57_26 => ?_)
          ·
           have c57_26p := of_decide_eq_true c57_26
           refine W_seq <| W_region <| RP_sg 2 [.p (.pointer none), .p (.int .i64 30)] [(6, .pointer none), (7, .int .i64 30)] trivial ?_
           refine RP_nil <| n_then <| W_ret <| r_block <| r_then <| r_loop <| r_block <| r_then ?_
           have hp : prevE L i = none := by unfold prevE; rw [if_pos (by omega)]
           have hok : okE clock (prevE L i) e = 30 := by unfold okE; rw [c38_21, hp]; (try dsimp only); (try rw [c57_26]); rfl
           have hnz : (30 : Int) ≠ 0 := (by decide : (30 : Int) ≠ 0)
           have hz : loadE clock none L = 30 := by rw [← hle, loadE_drop clock L he, hok, show ((30 : Int) != 0) = true from by simpa using hnz]; rfl
           refine ret_of (P := Tryd.prog) (fn := Tryd.f41) (m := [(6, .pointer none), (7, .int .i64 30)]) (w := w18.drew) (res2 rfl (rv_tmp rfl) (rv_tmp rfl)) ?_
           exact ⟨_, by (try rw [c13_2]); (try rw [c17_3]); (try rw [c21_4]); (try rw [c24_5]); (try rw [c27_6]); (try rw [c31_9]); (try rw [c38_21]); (try rw [c42_23]); (try rw [c57_26]); rw [hz]; rfl, st22.ext, fun _ => rfl, fun h => absurd h (by (try rw [c13_2]); (try rw [c17_3]); (try rw [c21_4]); (try rw [c24_5]); (try rw [c27_6]); (try rw [c31_9]); (try rw [c38_21]); (try rw [c42_23]); (try rw [c57_26]); rw [hz]; exact hnz)⟩
          ·
           have c57_26p := of_decide_eq_false c57_26
           refine W_skip <| n_block <| n_then <| W_region <| RP_sg 2 [.p (.int .i64 (IntKind.i64.wrap (((i : Nat) : Int) + 1))), .p (.int .i64 (IntKind.i64.wrap (((i : Nat) : Int) + 1)))] [(0, .int .i64 node), (1, .int .i64 clock), (2, a1), (28, a1), (29, .int .i64 ((L.length : Nat) : Int)), (30, .int .i64 (IntKind.i64.wrap (((i : Nat) : Int) + 1)))] trivial ?_
           refine RP_nil ?_
           have hp : prevE L i = none := by unfold prevE; rw [if_pos (by omega)]
           have hok : okE clock (prevE L i) e = 0 := by unfold okE; rw [c38_21, hp]; (try dsimp only); (try rw [c57_26]); rfl
           have hz : loadE clock (prevE L (i + 1)) (L.drop (i + 1)) = loadE clock none L := by rw [← hle, loadE_drop clock L he, hok]; rfl
           exact ⟨_, by omega, (i + 1), rfl, by rw [inc_w (n := i) (by omega)], st22.sub [] (List.sublist_cons_self _ _), by omega, hz⟩
       ·
        have c31_9p := of_decide_eq_false c31_9
        refine W_exit ?_
        refine e_then <| e_loop <| e_here ?_
        refine n_then <| W_seq <| W_region ?_
        have hiL : i = L.length := by omega
        rw [hiL, List.drop_length] at hle
        have hz : loadE clock none L = 0 := hle.symm
        refine RP_sg 3 [.p (.int .i64 node), .p (.int .i64 clock), .p a1] [(59, .int .i64 node), (60, .int .i64 clock), (61, a1)] trivial ?_
        refine RP_e rfl (ef_appendI appEnt st7 (Acc.nil _ _ _ _ _) rfl rfl (hin.ext0 st7.ext) (entCells_len L) (entCells_one L) (by simp only [maxLen]; omega) (by omega) (by simp)) ?_
        rintro _ w27 ⟨v1, rfl, hac, -, hx29⟩
        have st28 := st7.call0 hx29
        simp only [Nat.zero_add, List.nil_append] at hac
        obtain ⟨b2, c2, rfl⟩ := ownsRow.form' hac.own
        let a30 : Value := .agg #[.int .i64 node, .int .i64 clock, .slice b2 L.length c2]
        refine RP_sg 1 [.p a30] [(63, a30)] trivial ?_
        refine RP_e rfl (ef_box st28 rfl rfl) ?_
        rintro _ w31 ⟨gd, rfl, hgd, hgd', st32, hx33⟩
        replace st32 : St [] w w31 [(gd, 167, [.int .i64 node, .int .i64 clock, .slice b2 L.length c2])] := st32
        replace hac := hac.ext hx33 (by simp)
        let a34 : Value := .pointer (some ⟨gd, 0, none⟩)
        refine RP_sg 2 [.p a34, .p (.int .i64 0)] [(6, a34), (7, .int .i64 0)] trivial ?_
        refine RP_nil <| n_then <| W_ret <| ret_of (P := Tryd.prog) (fn := Tryd.f41) (m := [(6, .pointer (some ⟨gd, 0, none⟩)), (7, .int .i64 0)]) (w := w31) (res2 rfl (rv_tmp rfl) (rv_tmp rfl)) ?_
        exact ⟨_, by (try rw [c13_2]); (try rw [c17_3]); (try rw [c21_4]); (try rw [c24_5]); (try rw [c27_6]); (try rw [c31_9]); rw [hz]; rfl, st32.ext, fun h => absurd (by (try rw [c13_2]); (try rw [c17_3]); (try rw [c21_4]); (try rw [c24_5]); (try rw [c27_6]); (try rw [c31_9]); exact hz) h, fun _ => ⟨gd, b2, c2, rfl, ⟨st32.get 0 rfl, hac.own⟩, hgd, fun q hq => (hac.inn q hq).elim (fun h => by cases h) id⟩⟩
end Go.Proofs.YtcopemgkjbaaeaaDoor
namespace Go.Proofs.YtcopemgkjbaaeaaDoor
set_option linter.all false
open Go.RowKit
section
variable {P : Program} {n : Nat} {m : SM} {w w0 w' : World} {X : List Nat} {M : List (Nat × TypeId × List Value)}
variable {dst : Option Nat} {ty : TypeId} {pos : String} {af : Array Edge} {gd : Option (Nat × Bool)}
theorem Acc.apart {e : TypeId} {size k : Nat} {v : Value} {xs : List Value} (ha : Acc w0 X w e size v k xs) (st : St X w0 w M) (ht : M.all (fun x => x.2.1 != e) = true) : ∀ q ∈ M.map (·.1), q ∉ ownB v := by
  intro g hg hm
  obtain ⟨x, hx, rfl⟩ := List.mem_map.1 hg
  have h1 := List.all_eq_true.1 ht x hx
  simp only [bne_iff_ne, ne_eq] at h1
  exact ownsRow.not_blk ha.own (st.blk x hx) (fun h => h1 h.symm) hm
theorem Acc.of_new {e : TypeId} {size j g : Nat} {ns : List Value} (st : St X w0 w M) (i : Nat) (hi : M[i]? = some (g, e, ns)) (hl : ns.length = j * size) (hj : j ≤ maxLen) (hg : w0.heap.size ≤ g) : Acc w0 X w e size (.slice (some ⟨g, 0, none⟩) j j) j ns :=
  ⟨⟨hl, .inr ⟨g, j, ns.toArray, rfl, Nat.zero_le _, st.get i hi, Nat.le_refl _, hj, by simpa using hl, by rw [← hl]; simp⟩⟩, fun q hq => by
    simp [ownB, Value.ownBlock] at hq; subst hq; exact .inr hg⟩
end
end Go.Proofs.YtcopemgkjbaaeaaDoor
namespace Go.Proofs.YtcopemgkjbaaeaaDoor
set_option linter.all false
open Go.RowKit
def Rng.of (r : Rng) (l : List Ent) : List Ent := cond (r.check != 0) [] (l.filter fun e => r.holds e.key)
end Go.Proofs.YtcopemgkjbaaeaaDoor
namespace Go.Proofs.YtcopemgkjbaaeaaDoor
set_option linter.all false
open Go.RowKit
theorem inc_b {n : Nat} (h : n < 9223372036854775807) : IntKind.i64.wrap (((n : Nat) : Int) + 1) = ((n + 1 : Nat) : Int) := by rw [wrap_in (by omega) (by omega)]; omega
theorem appPart : AppT Tryd.prog 26 34 8 96 := ⟨by kernel_rfl, Tryd.t34, .agg #[.int .i64 0, .string ⟨#[]⟩, .string ⟨#[]⟩, .bool false, .int .i64 0, .int .u64 0, .int .u64 0, .slice none 0 0], by kernel_rfl, by kernel_rfl, rfl, rfl, rfl, by decide⟩
theorem idxSl : IdxT Tryd.prog 99 22 1 := ⟨by kernel_rfl, size_22⟩
theorem weight_cr {w : World} {b : Option Addr} {c : Nat} (L : List Prt) (hin : InS w b (prtCells L)) (hps : PartsIn w L) (hL : L.length ≤ 9223372036854775807) (hes : ∀ p ∈ L, p.es.length ≤ 9223372036854775807) :
    CR Tryd.prog 40 [.slice b L.length c] w fun v w' => ∃ n, v = .int .i64 n ∧ Ext [] w w' := by
  have st := St.init w []
  refine CR_enter Tryd.func40 rfl Tryd.ntmps40 rfl ?_
  refine W_seq <| W_region ?_
  let a1 : Value := .slice b L.length c
  refine RP_sg 1 [.p (.int .i64 0)] [(0, a1)] trivial ?_
  refine RP_nil <| n_then <| W_seq <| W_region <| RP_sg 1 [.p (.int .i64 0)] [(0, a1), (3, .int .i64 0)] trivial ?_
  refine RP_nil <| n_then <| W_seq <| W_seq <| W_region <| RP_sg 1 [.p (.int .i64 0)] [(0, a1), (3, .int .i64 0), (4, .int .i64 0)] trivial ?_
  refine RP_nil <| n_then <| W_block <| W_loop (fun k_ m_ w_ => ∃ (i : Nat) (nn : Int), L.length - i = k_ ∧ m_ = [(0, a1), (3, .int .i64 nn), (4, .int .i64 ((i : Nat) : Int))] ∧ St [] w w_ [] ∧ i ≤ L.length) ⟨0, 0, rfl, rfl, st, Nat.zero_le _⟩ ?_
  rintro _ _ w3 ⟨i, nn, rfl, rfl, st2, hil⟩
  refine W_seq <| W_seq <| W_region <| RP_sg 5 [.p (.int .i64 ((i : Nat) : Int)), .p a1, .p (.int .i64 ((L.length : Nat) : Int)), .p (.bool (decide (((i : Nat) : Int) < ((L.length : Nat) : Int)))), .p (.bool (decide (((i : Nat) : Int) < ((L.length : Nat) : Int))))] [(0, a1), (3, .int .i64 nn), (4, .int .i64 ((i : Nat) : Int)), (10, .bool (decide (((i : Nat) : Int) < ((L.length : Nat) : Int))))] trivial ?_
  rcases Bool.eq_false_or_eq_true (decide (((i : Nat) : Int) < ((L.length : Nat) : Int))) with c10_4 | c10_4
  ·
   have c10_4p := of_decide_eq_true c10_4
   refine RP_at (m' := [(0, a1), (3, .int .i64 nn), (4, .int .i64 ((i : Nat) : Int)), (10, .bool true)]) (by rw [c10_4]) ?_
   refine RP_sg 3 [.p (.int .i64 nn), .p (.bool (decide (nn < 2147483648))), .p (.bool (decide (nn < 2147483648)))] [(0, a1), (3, .int .i64 nn), (4, .int .i64 ((i : Nat) : Int)), (13, .bool (decide (nn < 2147483648)))] trivial ?_
   refine RP_nil <| n_then <| W_cond rfl (fun c13_5 => ?_) (fun c13_5 => ?_)
   ·
    have c13_5p := of_decide_eq_true c13_5
    refine W_skip <| n_then <| W_seq <| W_block <| W_seq ?_
    have hlt : i < L.length := by omega
    obtain ⟨p, hp⟩ : ∃ p, L[i]? = some p := ⟨L[i], by simp [hlt]⟩
    have hbs := hin.some_ (by rw [prtCells_len]; omega)
    have hpm := List.mem_of_getElem? hp
    have hpi := hps p hpm
    have hpl := hes p hpm
    refine W_regionS ⟨(fun w' => InS w' b (prtCells L)), (fun _ => True)⟩ (.cons 1 0 (.cons 1 1 (.cons 1 2 (.cons 1 3 (.cons 1 4 (.cons 1 5 (.cons 1 6 (.cons 1 7 (.cons 1 8 (.cons 1 9 (.cons 1 10 (.cons 1 11 (.cons 1 12 (.cons 1 13 (.cons 1 14 (.cons 1 15 (.cons 1 16 (.cons 1 17 (.cons 1 18 (.cons 1 19 (.cons 0 20 .nil))))))))))))))))))))) 21 (by kernel_rfl) (by kernel_rfl) ?_
    have st6 := st2.drew
    refine RS_sg 4 [.p (.int .i64 nn), .p (.int .i64 (IntKind.i64.wrap (nn + 1))), .p a1, .p (.int .i64 ((i : Nat) : Int))] [(0, a1), (4, .int .i64 ((i : Nat) : Int)), (17, .int .i64 (IntKind.i64.wrap (nn + 1))), (18, a1), (19, .int .i64 ((i : Nat) : Int))] (hin.ext0 st6.ext) (fun _ hS => trivial) ?_
    refine RS_q rfl rfl (hin.ext0 st6.ext) (v := .pointer (some ⟨(sp b), so b + i * 8, none⟩)) (fun _ _ => ev_indexI idxPart rfl rfl hbs hlt) ?_
    refine RS_sg 8 [.p (.pointer (some ⟨(sp b), so b + i * 8 + 1, none⟩)), .p (.pointer (some ⟨(sp b), so b + i * 8 + 1, none⟩)), .l 9 (.pointer (some ⟨(sp b), so b + i * 8 + 1, none⟩)) (.string p.r.lo), .p (.int .i64 (((p.r.lo).size : Nat) : Int)), .p (.int .i64 (if 2147483648 < (((p.r.lo).size : Nat) : Int) then 2147483648 else (((p.r.lo).size : Nat) : Int))), .p (.int .i64 (IntKind.i64.wrap ((IntKind.i64.wrap (nn + 1)) + (if 2147483648 < (((p.r.lo).size : Nat) : Int) then 2147483648 else (((p.r.lo).size : Nat) : Int))))), .p a1, .p (.int .i64 ((i : Nat) : Int))] [(0, a1), (4, .int .i64 ((i : Nat) : Int)), (26, .int .i64 (IntKind.i64.wrap ((IntKind.i64.wrap (nn + 1)) + (if 2147483648 < (((p.r.lo).size : Nat) : Int) then 2147483648 else (((p.r.lo).size : Nat) : Int))))), (27, a1), (28, .int .i64 ((i : Nat) : Int))] (hin.ext0 st6.ext) (fun _ hS => ⟨(InS.load1f nagg_9 (hS) (prtCells_f (k := 1) hp (by decide) rfl)), trivial⟩) ?_
    refine RS_q rfl rfl (hin.ext0 st6.ext) (v := .pointer (some ⟨(sp b), so b + i * 8, none⟩)) (fun _ _ => ev_indexI idxPart rfl rfl hbs hlt) ?_
    refine RS_sg 6 [.p (.pointer (some ⟨(sp b), so b + i * 8 + 1, none⟩)), .p (.pointer (some ⟨(sp b), so b + i * 8 + 2, none⟩)), .l 9 (.pointer (some ⟨(sp b), so b + i * 8 + 2, none⟩)) (.string p.r.hi), .p (.int .i64 (((p.r.hi).size : Nat) : Int)), .p (.int .i64 (if 2147483648 < (((p.r.hi).size : Nat) : Int) then 2147483648 else (((p.r.hi).size : Nat) : Int))), .p (.int .i64 (IntKind.i64.wrap ((IntKind.i64.wrap ((IntKind.i64.wrap (nn + 1)) + (if 2147483648 < (((p.r.lo).size : Nat) : Int) then 2147483648 else (((p.r.lo).size : Nat) : Int)))) + (if 2147483648 < (((p.r.hi).size : Nat) : Int) then 2147483648 else (((p.r.hi).size : Nat) : Int)))))] [(0, a1), (4, .int .i64 ((i : Nat) : Int)), (35, .int .i64 (IntKind.i64.wrap ((IntKind.i64.wrap ((IntKind.i64.wrap (nn + 1)) + (if 2147483648 < (((p.r.lo).size : Nat) : Int) then 2147483648 else (((p.r.lo).size : Nat) : Int)))) + (if 2147483648 < (((p.r.hi).size : Nat) : Int) then 2147483648 else (((p.r.hi).size : Nat) : Int)))))] (hin.ext0 st6.ext) (fun _ hS => ⟨(InS.load1f nagg_9 (hS) (prtCells_f (k := 2) hp (by decide) rfl)), trivial⟩) ?_
    refine RS_sgP 1 [.p (.int .i64 (IntKind.i64.wrap ((IntKind.i64.wrap ((IntKind.i64.wrap (nn + 1)) + (if 2147483648 < (((p.r.lo).size : Nat) : Int) then 2147483648 else (((p.r.lo).size : Nat) : Int)))) + (if 2147483648 < (((p.r.hi).size : Nat) : Int) then 2147483648 else (((p.r.hi).size : Nat) : Int)))))] [(0, a1), (3, .int .i64 (IntKind.i64.wrap ((IntKind.i64.wrap ((IntKind.i64.wrap (nn + 1)) + (if 2147483648 < (((p.r.lo).size : Nat) : Int) then 2147483648 else (((p.r.lo).size : Nat) : Int)))) + (if 2147483648 < (((p.r.hi).size : Nat) : Int) then 2147483648 else (((p.r.hi).size : Nat) : Int))))), (4, .int .i64 ((i : Nat) : Int))] (fun _ => trivial) ?_
    refine RS_nil <| n_then <| W_seq <| W_region <| RP_sg 1 [.p (.int .i64 0)] [(0, a1), (3, .int .i64 (IntKind.i64.wrap ((IntKind.i64.wrap ((IntKind.i64.wrap (nn + 1)) + (if 2147483648 < (((p.r.lo).size : Nat) : Int) then 2147483648 else (((p.r.lo).size : Nat) : Int)))) + (if 2147483648 < (((p.r.hi).size : Nat) : Int) then 2147483648 else (((p.r.hi).size : Nat) : Int))))), (4, .int .i64 ((i : Nat) : Int)), (5, .int .i64 0)] trivial ?_
    refine RP_nil <| n_then <| W_block <| W_loop (fun k_ m_ w_ => ∃ (k : Nat) (mm : Int), p.es.length - k = k_ ∧ m_ = [(0, a1), (3, .int .i64 mm), (4, .int .i64 ((i : Nat) : Int)), (5, .int .i64 ((k : Nat) : Int))] ∧ St [] w w_ [] ∧ k ≤ p.es.length) ⟨0, _, rfl, rfl, st6, Nat.zero_le _⟩ ?_
    rintro _ _ w8 ⟨k, mm, rfl, rfl, st7, hkl0⟩
    refine W_seq <| W_seq <| W_region <| RP_sg 3 [.p (.int .i64 ((k : Nat) : Int)), .p a1, .p (.int .i64 ((i : Nat) : Int))] [(0, a1), (3, .int .i64 mm), (4, .int .i64 ((i : Nat) : Int)), (5, .int .i64 ((k : Nat) : Int)), (36, .int .i64 ((k : Nat) : Int)), (37, a1), (38, .int .i64 ((i : Nat) : Int))] trivial ?_
    refine RP_q rfl (v := .pointer (some ⟨(sp b), so b + i * 8, none⟩)) (ev_indexI idxPart rfl rfl hbs hlt) ?_
    refine RP_sg 5 [.p (.pointer (some ⟨(sp b), so b + i * 8 + 7, none⟩)), .l 22 (.pointer (some ⟨(sp b), so b + i * 8 + 7, none⟩)) (.slice p.eb p.es.length p.ec), .p (.int .i64 ((p.es.length : Nat) : Int)), .p (.bool (decide (((k : Nat) : Int) < ((p.es.length : Nat) : Int)))), .p (.bool (decide (((k : Nat) : Int) < ((p.es.length : Nat) : Int))))] [(0, a1), (3, .int .i64 mm), (4, .int .i64 ((i : Nat) : Int)), (5, .int .i64 ((k : Nat) : Int)), (44, .bool (decide (((k : Nat) : Int) < ((p.es.length : Nat) : Int))))] ⟨InS.load1f nagg_22 (hin.ext0 st7.ext) (prtCells_f (k := 7) hp (by decide) rfl), trivial⟩ ?_
    rcases Bool.eq_false_or_eq_true (decide (((k : Nat) : Int) < ((p.es.length : Nat) : Int))) with c44_9 | c44_9
    ·
     have c44_9p := of_decide_eq_true c44_9
     refine RP_at (m' := [(0, a1), (3, .int .i64 mm), (4, .int .i64 ((i : Nat) : Int)), (5, .int .i64 ((k : Nat) : Int)), (44, .bool true)]) (by rw [c44_9]) ?_
     refine RP_sg 3 [.p (.int .i64 mm), .p (.bool (decide (mm < 2147483648))), .p (.bool (decide (mm < 2147483648)))] [(0, a1), (3, .int .i64 mm), (4, .int .i64 ((i : Nat) : Int)), (5, .int .i64 ((k : Nat) : Int)), (47, .bool (decide (mm < 2147483648)))] trivial ?_
     refine RP_nil <| n_then <| W_cond rfl (fun c47_10 => ?_) (fun c47_10 => ?_)
     ·
      have c47_10p := of_decide_eq_true c47_10
      refine W_skip <| n_then <| W_seq <| W_block ?_
      have hkl : k < p.es.length := by omega
      obtain ⟨e, he⟩ : ∃ e, p.es[k]? = some e := ⟨p.es[k], by simp [hkl]⟩
      have hes2 := hpi.some_ (by rw [entCells_len]; omega)
      refine W_regionS ⟨(fun w' => InS w' b (prtCells L) ∧ InS w' p.eb (entCells p.es)), (fun _ => True)⟩ (.cons 1 0 (.cons 1 1 (.cons 1 2 (.cons 1 3 (.cons 1 4 (.cons 1 5 (.cons 1 6 (.cons 1 7 (.cons 1 8 (.cons 1 9 (.cons 1 10 (.cons 1 11 (.cons 1 12 (.cons 1 13 (.cons 1 14 (.cons 1 15 (.cons 1 16 (.cons 1 17 (.cons 1 18 (.cons 1 19 (.cons 1 20 (.cons 1 21 (.cons 1 22 (.cons 1 23 (.cons 1 24 (.cons 1 25 (.cons 0 26 .nil))))))))))))))))))))))))))) 27 (by kernel_rfl) (by kernel_rfl) ?_
      have st11 := st7.drew
      refine RS_sg 4 [.p (.int .i64 mm), .p (.int .i64 (IntKind.i64.wrap (mm + 1))), .p a1, .p (.int .i64 ((i : Nat) : Int))] [(0, a1), (4, .int .i64 ((i : Nat) : Int)), (5, .int .i64 ((k : Nat) : Int)), (51, .int .i64 (IntKind.i64.wrap (mm + 1))), (52, a1), (53, .int .i64 ((i : Nat) : Int))] (⟨hin.ext0 st11.ext, hpi.ext0 st11.ext⟩) (fun _ hS => trivial) ?_
      refine RS_q rfl rfl (⟨hin.ext0 st11.ext, hpi.ext0 st11.ext⟩) (v := .pointer (some ⟨(sp b), so b + i * 8, none⟩)) (fun _ _ => ev_indexI idxPart rfl rfl hbs hlt) ?_
      let a12 : Value := .slice p.eb p.es.length p.ec
      refine RS_sg 3 [.p (.pointer (some ⟨(sp b), so b + i * 8 + 7, none⟩)), .l 22 (.pointer (some ⟨(sp b), so b + i * 8 + 7, none⟩)) a12, .p (.int .i64 ((k : Nat) : Int))] [(0, a1), (4, .int .i64 ((i : Nat) : Int)), (5, .int .i64 ((k : Nat) : Int)), (51, .int .i64 (IntKind.i64.wrap (mm + 1))), (56, a12), (57, .int .i64 ((k : Nat) : Int))] (⟨hin.ext0 st11.ext, hpi.ext0 st11.ext⟩) (fun _ hS => ⟨(InS.load1f nagg_22 (hS.1) (prtCells_f (k := 7) hp (by decide) rfl)), trivial⟩) ?_
      refine RS_q rfl rfl (⟨hin.ext0 st11.ext, hpi.ext0 st11.ext⟩) (v := .pointer (some ⟨(sp p.eb), so p.eb + k * 5, none⟩)) (fun _ _ => ev_indexI idxEnt rfl rfl hes2 hkl) ?_
      refine RS_sg 7 [.p (.pointer (some ⟨(sp p.eb), so p.eb + k * 5, none⟩)), .l 9 (.pointer (some ⟨(sp p.eb), so p.eb + k * 5, none⟩)) (.string e.key), .p (.int .i64 (((e.key).size : Nat) : Int)), .p (.int .i64 (if 2147483648 < (((e.key).size : Nat) : Int) then 2147483648 else (((e.key).size : Nat) : Int))), .p (.int .i64 (IntKind.i64.wrap ((IntKind.i64.wrap (mm + 1)) + (if 2147483648 < (((e.key).size : Nat) : Int) then 2147483648 else (((e.key).size : Nat) : Int))))), .p a1, .p (.int .i64 ((i : Nat) : Int))] [(0, a1), (4, .int .i64 ((i : Nat) : Int)), (5, .int .i64 ((k : Nat) : Int)), (63, .int .i64 (IntKind.i64.wrap ((IntKind.i64.wrap (mm + 1)) + (if 2147483648 < (((e.key).size : Nat) : Int) then 2147483648 else (((e.key).size : Nat) : Int))))), (64, a1), (65, .int .i64 ((i : Nat) : Int))] (⟨hin.ext0 st11.ext, hpi.ext0 st11.ext⟩) (fun _ hS => ⟨(InS.load1 nagg_9 (hS.2) (entCells_0 he rfl)), trivial⟩) ?_
      refine RS_q rfl rfl (⟨hin.ext0 st11.ext, hpi.ext0 st11.ext⟩) (v := .pointer (some ⟨(sp b), so b + i * 8, none⟩)) (fun _ _ => ev_indexI idxPart rfl rfl hbs hlt) ?_
      refine RS_sg 3 [.p (.pointer (some ⟨(sp b), so b + i * 8 + 7, none⟩)), .l 22 (.pointer (some ⟨(sp b), so b + i * 8 + 7, none⟩)) a12, .p (.int .i64 ((k : Nat) : Int))] [(0, a1), (4, .int .i64 ((i : Nat) : Int)), (5, .int .i64 ((k : Nat) : Int)), (63, .int .i64 (IntKind.i64.wrap ((IntKind.i64.wrap (mm + 1)) + (if 2147483648 < (((e.key).size : Nat) : Int) then 2147483648 else (((e.key).size : Nat) : Int))))), (68, a12), (69, .int .i64 ((k : Nat) : Int))] (⟨hin.ext0 st11.ext, hpi.ext0 st11.ext⟩) (fun _ hS => ⟨(InS.load1f nagg_22 (hS.1) (prtCells_f (k := 7) hp (by decide) rfl)), trivial⟩) ?_
      refine RS_q rfl rfl (⟨hin.ext0 st11.ext, hpi.ext0 st11.ext⟩) (v := .pointer (some ⟨(sp p.eb), so p.eb + k * 5, none⟩)) (fun _ _ => ev_indexI idxEnt rfl rfl hes2 hkl) ?_
      refine RS_sg 5 [.p (.pointer (some ⟨(sp p.eb), so p.eb + k * 5 + 3, none⟩)), .l 9 (.pointer (some ⟨(sp p.eb), so p.eb + k * 5 + 3, none⟩)) (.string e.val), .p (.int .i64 (((e.val).size : Nat) : Int)), .p (.int .i64 (if 2147483648 < (((e.val).size : Nat) : Int) then 2147483648 else (((e.val).size : Nat) : Int))), .p (.int .i64 (IntKind.i64.wrap ((IntKind.i64.wrap ((IntKind.i64.wrap (mm + 1)) + (if 2147483648 < (((e.key).size : Nat) : Int) then 2147483648 else (((e.key).size : Nat) : Int)))) + (if 2147483648 < (((e.val).size : Nat) : Int) then 2147483648 else (((e.val).size : Nat) : Int)))))] [(0, a1), (4, .int .i64 ((i : Nat) : Int)), (5, .int .i64 ((k : Nat) : Int)), (75, .int .i64 (IntKind.i64.wrap ((IntKind.i64.wrap ((IntKind.i64.wrap (mm + 1)) + (if 2147483648 < (((e.key).size : Nat) : Int) then 2147483648 else (((e.key).size : Nat) : Int)))) + (if 2147483648 < (((e.val).size : Nat) : Int) then 2147483648 else (((e.val).size : Nat) : Int)))))] (⟨hin.ext0 st11.ext, hpi.ext0 st11.ext⟩) (fun _ hS => ⟨(InS.load1f nagg_9 (hS.2) (entCells_f (k := 3) he (by decide) rfl)), trivial⟩) ?_
      refine RS_sgP 1 [.p (.int .i64 (IntKind.i64.wrap ((IntKind.i64.wrap ((IntKind.i64.wrap (mm + 1)) + (if 2147483648 < (((e.key).size : Nat) : Int) then 2147483648 else (((e.key).size : Nat) : Int)))) + (if 2147483648 < (((e.val).size : Nat) : Int) then 2147483648 else (((e.val).size : Nat) : Int)))))] [(0, a1), (3, .int .i64 (IntKind.i64.wrap ((IntKind.i64.wrap ((IntKind.i64.wrap (mm + 1)) + (if 2147483648 < (((e.key).size : Nat) : Int) then 2147483648 else (((e.key).size : Nat) : Int)))) + (if 2147483648 < (((e.val).size : Nat) : Int) then 2147483648 else (((e.val).size : Nat) : Int))))), (4, .int .i64 ((i : Nat) : Int)), (5, .int .i64 ((k : Nat) : Int))] (fun _ => trivial) ?_
      refine RS_nil <| n_block <| n_then <| W_region <| RP_sg 3 [.p (.int .i64 ((k : Nat) : Int)), .p (.int .i64 (IntKind.i64.wrap (((k : Nat) : Int) + 1))), .p (.int .i64 (IntKind.i64.wrap (((k : Nat) : Int) + 1)))] [(0, a1), (3, .int .i64 (IntKind.i64.wrap ((IntKind.i64.wrap ((IntKind.i64.wrap (mm + 1)) + (if 2147483648 < (((e.key).size : Nat) : Int) then 2147483648 else (((e.key).size : Nat) : Int)))) + (if 2147483648 < (((e.val).size : Nat) : Int) then 2147483648 else (((e.val).size : Nat) : Int))))), (4, .int .i64 ((i : Nat) : Int)), (5, .int .i64 (IntKind.i64.wrap (((k : Nat) : Int) + 1)))] trivial ?_
      refine RP_nil ?_
      exact ⟨_, by omega, (k + 1), _, rfl, by rw [inc_b (n := k) (by omega)], st11, by omega⟩
     ·
      have c47_10p := of_decide_eq_false c47_10
      refine W_exit ?_
      refine e_then <| e_loop <| e_here ?_
      refine n_block <| n_then <| W_region <| RP_sg 3 [.p (.int .i64 ((i : Nat) : Int)), .p (.int .i64 (IntKind.i64.wrap (((i : Nat) : Int) + 1))), .p (.int .i64 (IntKind.i64.wrap (((i : Nat) : Int) + 1)))] [(0, a1), (3, .int .i64 mm), (4, .int .i64 (IntKind.i64.wrap (((i : Nat) : Int) + 1)))] trivial ?_
      refine RP_nil ?_
      exact ⟨_, by omega, (i + 1), _, rfl, by rw [inc_b (n := i) (by omega)], st7, by omega⟩
    ·
     have c44_9p := of_decide_eq_false c44_9
     refine RP_at (m' := [(0, a1), (3, .int .i64 mm), (4, .int .i64 ((i : Nat) : Int)), (5, .int .i64 ((k : Nat) : Int)), (44, .bool false)]) (by rw [c44_9]) ?_
     refine RP_sg 3 [.no, .no, .p (.bool false)] [(0, a1), (3, .int .i64 mm), (4, .int .i64 ((i : Nat) : Int)), (5, .int .i64 ((k : Nat) : Int)), (47, .bool false)] trivial ?_
     refine RP_nil <| n_then <| W_false rfl ?_
     refine W_exit ?_
     refine e_then <| e_loop <| e_here ?_
     refine n_block <| n_then <| W_region <| RP_sg 3 [.p (.int .i64 ((i : Nat) : Int)), .p (.int .i64 (IntKind.i64.wrap (((i : Nat) : Int) + 1))), .p (.int .i64 (IntKind.i64.wrap (((i : Nat) : Int) + 1)))] [(0, a1), (3, .int .i64 mm), (4, .int .i64 (IntKind.i64.wrap (((i : Nat) : Int) + 1)))] trivial ?_
     refine RP_nil ?_
     exact ⟨_, by omega, (i + 1), _, rfl, by rw [inc_b (n := i) (by omega)], st7, by omega⟩
   ·
    have c13_5p := of_decide_eq_false c13_5
    refine W_exit ?_
    refine e_then <| e_loop <| e_here ?_
    refine n_then <| W_seq <| W_region <| RP_sg 2 [.p (.int .i64 nn), .p (.int .i64 nn)] [(2, .int .i64 nn)] trivial ?_
    refine RP_nil <| n_then <| W_ret <| ret_of (P := Tryd.prog) (fn := Tryd.f40) (m := [(2, .int .i64 nn)]) (w := w3) (res1 rfl (rv_tmp rfl)) ?_
    exact ⟨_, rfl, st2.ext⟩
  ·
   have c10_4p := of_decide_eq_false c10_4
   refine RP_at (m' := [(0, a1), (3, .int .i64 nn), (4, .int .i64 ((i : Nat) : Int)), (10, .bool false)]) (by rw [c10_4]) ?_
   refine RP_sg 3 [.no, .no, .p (.bool false)] [(0, a1), (3, .int .i64 nn), (4, .int .i64 ((i : Nat) : Int)), (13, .bool false)] trivial ?_
   refine RP_nil <| n_then <| W_false rfl ?_
   refine W_exit ?_
   refine e_then <| e_loop <| e_here ?_
   refine n_then <| W_seq <| W_region <| RP_sg 2 [.p (.int .i64 nn), .p (.int .i64 nn)] [(2, .int .i64 nn)] trivial ?_
   refine RP_nil <| n_then <| W_ret <| ret_of (P := Tryd.prog) (fn := Tryd.f40) (m := [(2, .int .i64 nn)]) (w := w3) (res1 rfl (rv_tmp rfl)) ?_
   exact ⟨_, rfl, st2.ext⟩
structure ESl where
  l : List Ent
  b : Option Addr
  c : Nat
def slCells (L : List ESl) : List Value := L.map fun s => .slice s.b s.l.length s.c
theorem slCells_len (L : List ESl) : (slCells L).length = L.length := by simp [slCells]
theorem slCells_at {L : List ESl} {s : ESl} {n : Nat} (h : L[n]? = some s) : (slCells L)[n * 1]? = some (.slice s.b s.l.length s.c) := by simp [slCells, h]
theorem beyond_cr {w : World} {b d : Option Addr} {c f : Nat} (L : List Prt) (LL : List ESl) (hin : InS w b (prtCells L)) (hps : PartsIn w L) (hL : L.length ≤ 9223372036854775807) (hes : ∀ p ∈ L, p.es.length ≤ 9223372036854775807)
    (hll : InS w d (slCells LL)) (hls : ∀ s ∈ LL, InS w s.b (entCells s.l)) (hLL : LL.length ≤ 9223372036854775807) (hsl : ∀ s ∈ LL, s.l.length ≤ 9223372036854775807) :
    CR Tryd.prog 9 [.slice b L.length c, .slice d LL.length f] w fun v w' => ∃ n, v = .bool n ∧ Ext [] w w' := by
  have st := St.init w []
  refine CR_enter Tryd.func9 rfl Tryd.ntmps9 rfl ?_
  refine W_seq <| W_region ?_
  let a1 : Value := .slice b L.length c
  let a2 : Value := .slice d LL.length f
  refine RP_sg 1 [.p (.bool false)] [(0, a1), (1, a2)] trivial ?_
  refine RP_nil <| n_then <| W_seq <| W_region <| RP_sg 1 [.p a1] [(1, a2), (8, a1)] trivial ?_
  refine RP_e rfl (ef_call (k := 40) (args := [a1]) (weight_cr L hin hps hL hes) body_40 (by kernel_rfl)) ?_
  rintro _ w3 ⟨_, rfl, n0, rfl, hx5⟩
  have st4 := st.call0 hx5
  refine RP_sg 1 [.p (.int .i64 n0)] [(1, a2), (5, .int .i64 n0)] trivial ?_
  refine RP_nil <| n_then <| W_seq <| W_seq <| W_region <| RP_sg 1 [.p (.int .i64 0)] [(1, a2), (5, .int .i64 n0), (6, .int .i64 0)] trivial ?_
  refine RP_nil <| n_then <| W_block <| W_loop (fun k_ m_ w_ => ∃ (i : Nat) (nn : Int), LL.length - i = k_ ∧ m_ = [(1, a2), (5, .int .i64 nn), (6, .int .i64 ((i : Nat) : Int))] ∧ St [] w w_ [] ∧ i ≤ LL.length) ⟨0, _, rfl, rfl, st4, Nat.zero_le _⟩ ?_
  rintro _ _ w7 ⟨i, nn, rfl, rfl, st6, hil⟩
  refine W_seq <| W_seq <| W_region <| RP_sg 4 [.p (.int .i64 ((i : Nat) : Int)), .p a2, .p (.int .i64 ((LL.length : Nat) : Int)), .p (.bool (decide (((i : Nat) : Int) < ((LL.length : Nat) : Int))))] [(1, a2), (5, .int .i64 nn), (6, .int .i64 ((i : Nat) : Int)), (13, .bool (decide (((i : Nat) : Int) < ((LL.length : Nat) : Int))))] trivial ?_
  refine RP_nil <| n_then <| W_cond rfl (fun c13_8 => ?_) (fun c13_8 => ?_)
  ·
   have c13_8p := of_decide_eq_true c13_8
   refine W_skip <| n_then <| W_seq <| W_block <| W_seq ?_
   have hlt : i < LL.length := by omega
   obtain ⟨s, hs⟩ : ∃ s, LL[i]? = some s := ⟨LL[i], by simp [hlt]⟩
   have hbs := hll.some_ (by rw [slCells_len]; omega)
   have hsm := List.mem_of_getElem? hs
   have hsi := hls s hsm
   have hsl2 := hsl s hsm
   refine W_region <| RP_sg 1 [.p (.int .i64 0)] [(1, a2), (5, .int .i64 nn), (6, .int .i64 ((i : Nat) : Int)), (7, .int .i64 0)] trivial ?_
   refine RP_nil <| n_then <| W_block <| W_loop (fun k_ m_ w_ => ∃ (k : Nat) (mm : Int), s.l.length - k = k_ ∧ m_ = [(1, a2), (5, .int .i64 mm), (6, .int .i64 ((i : Nat) : Int)), (7, .int .i64 ((k : Nat) : Int))] ∧ St [] w w_ [] ∧ k ≤ s.l.length) ⟨0, _, rfl, rfl, st6, Nat.zero_le _⟩ ?_
   rintro _ _ w10 ⟨k, mm, rfl, rfl, st9, hkl0⟩
   refine W_seq <| W_seq <| W_region <| RP_sg 3 [.p (.int .i64 ((k : Nat) : Int)), .p a2, .p (.int .i64 ((i : Nat) : Int))] [(1, a2), (5, .int .i64 mm), (6, .int .i64 ((i : Nat) : Int)), (7, .int .i64 ((k : Nat) : Int)), (16, .int .i64 ((k : Nat) : Int)), (17, a2), (18, .int .i64 ((i : Nat) : Int))] trivial ?_
   refine RP_q rfl (v := .pointer (some ⟨(sp d), so d + i * 1, none⟩)) (ev_indexI idxSl rfl rfl hbs hlt) ?_
   refine RP_sg 4 [.l 22 (.pointer (some ⟨(sp d), so d + i * 1, none⟩)) (.slice s.b s.l.length s.c), .p (.int .i64 ((s.l.length : Nat) : Int)), .p (.bool (decide (((k : Nat) : Int) < ((s.l.length : Nat) : Int)))), .p (.bool (decide (((k : Nat) : Int) < ((s.l.length : Nat) : Int))))] [(1, a2), (5, .int .i64 mm), (6, .int .i64 ((i : Nat) : Int)), (7, .int .i64 ((k : Nat) : Int)), (23, .bool (decide (((k : Nat) : Int) < ((s.l.length : Nat) : Int))))] ⟨InS.load1 nagg_22 (hll.ext0 st9.ext) (slCells_at hs), trivial⟩ ?_
   rcases Bool.eq_false_or_eq_true (decide (((k : Nat) : Int) < ((s.l.length : Nat) : Int))) with c23_11 | c23_11
   ·
    have c23_11p := of_decide_eq_true c23_11
    refine RP_at (m' := [(1, a2), (5, .int .i64 mm), (6, .int .i64 ((i : Nat) : Int)), (7, .int .i64 ((k : Nat) : Int)), (23, .bool true)]) (by rw [c23_11]) ?_
    refine RP_sg 3 [.p (.int .i64 mm), .p (.bool (decide (mm ≤ 536870912))), .p (.bool (decide (mm ≤ 536870912)))] [(1, a2), (5, .int .i64 mm), (6, .int .i64 ((i : Nat) : Int)), (7, .int .i64 ((k : Nat) : Int)), (26, .bool (decide (mm ≤ 536870912)))] trivial ?_
    refine RP_nil <| n_then <| W_cond rfl (fun c26_12 => ?_) (fun c26_12 => ?_)
    ·
     have c26_12p := of_decide_eq_true c26_12
     refine W_skip <| n_then <| W_seq <| W_block ?_
     have hkl : k < s.l.length := by omega
     obtain ⟨e, he⟩ : ∃ e, s.l[k]? = some e := ⟨s.l[k], by simp [hkl]⟩
     have hes2 := hsi.some_ (by rw [entCells_len]; omega)
     refine W_regionS ⟨(fun w' => InS w' d (slCells LL) ∧ InS w' s.b (entCells s.l)), (fun _ => True)⟩ (.cons 1 0 (.cons 1 1 (.cons 1 2 (.cons 1 3 (.cons 1 4 (.cons 1 5 (.cons 1 6 (.cons 1 7 (.cons 1 8 (.cons 1 9 (.cons 1 10 (.cons 1 11 (.cons 1 12 (.cons 1 13 (.cons 1 14 (.cons 1 15 (.cons 1 16 (.cons 1 17 (.cons 1 18 (.cons 1 19 (.cons 1 20 (.cons 1 21 (.cons 1 22 (.cons 1 23 (.cons 0 24 .nil))))))))))))))))))))))))) 25 (by kernel_rfl) (by kernel_rfl) ?_
     have st13 := st9.drew
     refine RS_sg 3 [.p (.int .i64 mm), .p a2, .p (.int .i64 ((i : Nat) : Int))] [(1, a2), (6, .int .i64 ((i : Nat) : Int)), (7, .int .i64 ((k : Nat) : Int)), (29, .int .i64 mm), (30, a2), (31, .int .i64 ((i : Nat) : Int))] (⟨hll.ext0 st13.ext, hsi.ext0 st13.ext⟩) (fun _ hS => trivial) ?_
     refine RS_q rfl rfl (⟨hll.ext0 st13.ext, hsi.ext0 st13.ext⟩) (v := .pointer (some ⟨(sp d), so d + i * 1, none⟩)) (fun _ _ => ev_indexI idxSl rfl rfl hbs hlt) ?_
     let a14 : Value := .slice s.b s.l.length s.c
     refine RS_sg 2 [.l 22 (.pointer (some ⟨(sp d), so d + i * 1, none⟩)) a14, .p (.int .i64 ((k : Nat) : Int))] [(1, a2), (6, .int .i64 ((i : Nat) : Int)), (7, .int .i64 ((k : Nat) : Int)), (29, .int .i64 mm), (33, a14), (34, .int .i64 ((k : Nat) : Int))] (⟨hll.ext0 st13.ext, hsi.ext0 st13.ext⟩) (fun _ hS => ⟨(InS.load1 nagg_22 (hS.1) (slCells_at hs)), trivial⟩) ?_
     refine RS_q rfl rfl (⟨hll.ext0 st13.ext, hsi.ext0 st13.ext⟩) (v := .pointer (some ⟨(sp s.b), so s.b + k * 5, none⟩)) (fun _ _ => ev_indexI idxEnt rfl rfl hes2 hkl) ?_
     refine RS_sg 7 [.p (.pointer (some ⟨(sp s.b), so s.b + k * 5, none⟩)), .l 9 (.pointer (some ⟨(sp s.b), so s.b + k * 5, none⟩)) (.string e.key), .p (.int .i64 (((e.key).size : Nat) : Int)), .p (.int .i64 (if 1073741824 < (((e.key).size : Nat) : Int) then 1073741824 else (((e.key).size : Nat) : Int))), .p (.int .i64 (IntKind.i64.wrap (1 + (if 1073741824 < (((e.key).size : Nat) : Int) then 1073741824 else (((e.key).size : Nat) : Int))))), .p a2, .p (.int .i64 ((i : Nat) : Int))] [(1, a2), (6, .int .i64 ((i : Nat) : Int)), (7, .int .i64 ((k : Nat) : Int)), (29, .int .i64 mm), (40, .int .i64 (IntKind.i64.wrap (1 + (if 1073741824 < (((e.key).size : Nat) : Int) then 1073741824 else (((e.key).size : Nat) : Int))))), (41, a2), (42, .int .i64 ((i : Nat) : Int))] (⟨hll.ext0 st13.ext, hsi.ext0 st13.ext⟩) (fun _ hS => ⟨(InS.load1 nagg_9 (hS.2) (entCells_0 he rfl)), trivial⟩) ?_
     refine RS_q rfl rfl (⟨hll.ext0 st13.ext, hsi.ext0 st13.ext⟩) (v := .pointer (some ⟨(sp d), so d + i * 1, none⟩)) (fun _ _ => ev_indexI idxSl rfl rfl hbs hlt) ?_
     refine RS_sg 2 [.l 22 (.pointer (some ⟨(sp d), so d + i * 1, none⟩)) a14, .p (.int .i64 ((k : Nat) : Int))] [(1, a2), (6, .int .i64 ((i : Nat) : Int)), (7, .int .i64 ((k : Nat) : Int)), (29, .int .i64 mm), (40, .int .i64 (IntKind.i64.wrap (1 + (if 1073741824 < (((e.key).size : Nat) : Int) then 1073741824 else (((e.key).size : Nat) : Int))))), (44, a14), (45, .int .i64 ((k : Nat) : Int))] (⟨hll.ext0 st13.ext, hsi.ext0 st13.ext⟩) (fun _ hS => ⟨(InS.load1 nagg_22 (hS.1) (slCells_at hs)), trivial⟩) ?_
     refine RS_q rfl rfl (⟨hll.ext0 st13.ext, hsi.ext0 st13.ext⟩) (v := .pointer (some ⟨(sp s.b), so s.b + k * 5, none⟩)) (fun _ _ => ev_indexI idxEnt rfl rfl hes2 hkl) ?_
     refine RS_sg 6 [.p (.pointer (some ⟨(sp s.b), so s.b + k * 5 + 3, none⟩)), .l 9 (.pointer (some ⟨(sp s.b), so s.b + k * 5 + 3, none⟩)) (.string e.val), .p (.int .i64 (((e.val).size : Nat) : Int)), .p (.int .i64 (if 1073741824 < (((e.val).size : Nat) : Int) then 1073741824 else (((e.val).size : Nat) : Int))), .p (.int .i64 (IntKind.i64.wrap ((IntKind.i64.wrap (1 + (if 1073741824 < (((e.key).size : Nat) : Int) then 1073741824 else (((e.key).size : Nat) : Int)))) + (if 1073741824 < (((e.val).size : Nat) : Int) then 1073741824 else (((e.val).size : Nat) : Int))))), .p (.int .i64 (IntKind.i64.wrap (mm + (IntKind.i64.wrap ((IntKind.i64.wrap (1 + (if 1073741824 < (((e.key).size : Nat) : Int) then 1073741824 else (((e.key).size : Nat) : Int)))) + (if 1073741824 < (((e.val).size : Nat) : Int) then 1073741824 else (((e.val).size : Nat) : Int)))))))] [(1, a2), (6, .int .i64 ((i : Nat) : Int)), (7, .int .i64 ((k : Nat) : Int)), (52, .int .i64 (IntKind.i64.wrap (mm + (IntKind.i64.wrap ((IntKind.i64.wrap (1 + (if 1073741824 < (((e.key).size : Nat) : Int) then 1073741824 else (((e.key).size : Nat) : Int)))) + (if 1073741824 < (((e.val).size : Nat) : Int) then 1073741824 else (((e.val).size : Nat) : Int)))))))] (⟨hll.ext0 st13.ext, hsi.ext0 st13.ext⟩) (fun _ hS => ⟨(InS.load1f nagg_9 (hS.2) (entCells_f (k := 3) he (by decide) rfl)), trivial⟩) ?_
     refine RS_sgP 1 [.p (.int .i64 (IntKind.i64.wrap (mm + (IntKind.i64.wrap ((IntKind.i64.wrap (1 + (if 1073741824 < (((e.key).size : Nat) : Int) then 1073741824 else (((e.key).size : Nat) : Int)))) + (if 1073741824 < (((e.val).size : Nat) : Int) then 1073741824 else (((e.val).size : Nat) : Int)))))))] [(1, a2), (5, .int .i64 (IntKind.i64.wrap (mm + (IntKind.i64.wrap ((IntKind.i64.wrap (1 + (if 1073741824 < (((e.key).size : Nat) : Int) then 1073741824 else (((e.key).size : Nat) : Int)))) + (if 1073741824 < (((e.val).size : Nat) : Int) then 1073741824 else (((e.val).size : Nat) : Int))))))), (6, .int .i64 ((i : Nat) : Int)), (7, .int .i64 ((k : Nat) : Int))] (fun _ => trivial) ?_
     refine RS_nil <| n_block <| n_then <| W_region <| RP_sg 3 [.p (.int .i64 ((k : Nat) : Int)), .p (.int .i64 (IntKind.i64.wrap (((k : Nat) : Int) + 1))), .p (.int .i64 (IntKind.i64.wrap (((k : Nat) : Int) + 1)))] [(1, a2), (5, .int .i64 (IntKind.i64.wrap (mm + (IntKind.i64.wrap ((IntKind.i64.wrap (1 + (if 1073741824 < (((e.key).size : Nat) : Int) then 1073741824 else (((e.key).size : Nat) : Int)))) + (if 1073741824 < (((e.val).size : Nat) : Int) then 1073741824 else (((e.val).size : Nat) : Int))))))), (6, .int .i64 ((i : Nat) : Int)), (7, .int .i64 (IntKind.i64.wrap (((k : Nat) : Int) + 1)))] trivial ?_
     refine RP_nil ?_
     exact ⟨_, by omega, (k + 1), _, rfl, by rw [inc_b (n := k) (by omega)], st13, by omega⟩
    ·
     have c26_12p := of_decide_eq_false c26_12
     refine W_exit ?_
     refine e_then <| e_loop <| e_here ?_
     refine n_block <| n_then <| W_region <| RP_sg 3 [.p (.int .i64 ((i : Nat) : Int)), .p (.int .i64 (IntKind.i64.wrap (((i : Nat) : Int) + 1))), .p (.int .i64 (IntKind.i64.wrap (((i : Nat) : Int) + 1)))] [(1, a2), (5, .int .i64 mm), (6, .int .i64 (IntKind.i64.wrap (((i : Nat) : Int) + 1)))] trivial ?_
     refine RP_nil ?_
     exact ⟨_, by omega, (i + 1), _, rfl, by rw [inc_b (n := i) (by omega)], st9, by omega⟩
   ·
    have c23_11p := of_decide_eq_false c23_11
    refine RP_at (m' := [(1, a2), (5, .int .i64 mm), (6, .int .i64 ((i : Nat) : Int)), (7, .int .i64 ((k : Nat) : Int)), (23, .bool false)]) (by rw [c23_11]) ?_
    refine RP_sg 3 [.no, .no, .p (.bool false)] [(1, a2), (5, .int .i64 mm), (6, .int .i64 ((i : Nat) : Int)), (7, .int .i64 ((k : Nat) : Int)), (26, .bool false)] trivial ?_
    refine RP_nil <| n_then <| W_false rfl ?_
    refine W_exit ?_
    refine e_then <| e_loop <| e_here ?_
    refine n_block <| n_then <| W_region <| RP_sg 3 [.p (.int .i64 ((i : Nat) : Int)), .p (.int .i64 (IntKind.i64.wrap (((i : Nat) : Int) + 1))), .p (.int .i64 (IntKind.i64.wrap (((i : Nat) : Int) + 1)))] [(1, a2), (5, .int .i64 mm), (6, .int .i64 (IntKind.i64.wrap (((i : Nat) : Int) + 1)))] trivial ?_
    refine RP_nil ?_
    exact ⟨_, by omega, (i + 1), _, rfl, by rw [inc_b (n := i) (by omega)], st9, by omega⟩
  ·
   have c13_8p := of_decide_eq_false c13_8
   refine W_exit ?_
   refine e_then <| e_loop <| e_here ?_
   refine n_then <| W_seq <| W_region <| RP_sg 3 [.p (.int .i64 nn), .p (.bool (decide (nn > 536870912))), .p (.bool (decide (nn > 536870912)))] [(4, .bool (decide (nn > 536870912)))] trivial ?_
   refine RP_nil <| n_then <| W_ret <| ret_of (P := Tryd.prog) (fn := Tryd.f9) (m := [(4, .bool (decide (nn > 536870912)))]) (w := w7) (res1 rfl (rv_tmp rfl)) ?_
   exact ⟨_, rfl, st6.ext⟩
theorem one_cr (p : Prt) (w : World) : CR Tryd.prog 10 [p.v] w fun v w' => ∃ b c, v = .slice b 1 c ∧ InS w' b (prtCells [p]) ∧ Ext [] w w' := by
  have st := St.init w []
  refine CR_enter Tryd.func10 rfl Tryd.ntmps10 rfl ?_
  refine W_seq <| W_region <| RP_e rfl (ef_box st rfl rfl) ?_
  rintro _ w1 ⟨g4, rfl, hg4, hg4', st2, hx3⟩
  replace st2 : St [] w w1 [(g4, 34, [.int .i64 p.k, .string p.r.lo, .string p.r.hi, .bool p.r.op, .int .i64 p.t.k, .int .u64 p.t.a, .int .u64 p.t.b, .slice p.eb p.es.length p.ec])] := st2
  let a5 : Value := .pointer (some ⟨g4, 0, none⟩)
  refine RP_sg 1 [.p (.slice none 0 0)] [(1, a5)] trivial ?_
  refine RP_nil <| n_then <| W_seq <| W_region <| RP_e rfl (ef_new (t := 34) (cs := []) (fun g => .slice (some ⟨g, 0, none⟩) 0 0) st2 rfl rfl (fun _ => by kernel_rfl)) ?_
  rintro _ w6 ⟨gb, rfl, hgb, hgb', st7, hx8⟩
  let a9 : Value := .slice (some ⟨gb, 0, none⟩) 0 0
  refine RP_sg 1 [.p a9] [(1, a5), (3, a9)] trivial ?_
  refine RP_nil <| n_then <| W_seq ?_
  have hac := Acc.of_new (size := 8) (j := 0) st7 0 rfl rfl (show 0 ≤ maxLen by decide) hgb
  refine W_region ?_
  let a10 : Value := .agg #[.int .i64 p.k, .string p.r.lo, .string p.r.hi, .bool p.r.op, .int .i64 p.t.k, .int .u64 p.t.a, .int .u64 p.t.b, .slice p.eb p.es.length p.ec]
  refine RP_sg 2 [.p a9, .l 34 a5 a10] [(5, a9), (6, a10)] ⟨ldN st7 agg_34 1 rfl rfl rfl, trivial⟩ ?_
  refine RP_e rfl (ef_new (t := 34) (cs := [.int .i64 p.k, .string p.r.lo, .string p.r.hi, .bool p.r.op, .int .i64 p.t.k, .int .u64 p.t.a, .int .u64 p.t.b, .slice p.eb p.es.length p.ec]) (fun g => .slice (some ⟨g, 0, none⟩) 1 1) st7 rfl rfl (fun _ => by kernel_rfl)) ?_
  rintro _ w11 ⟨g14, rfl, hg14, hg14', st12, hx13⟩
  replace hac := hac.ext hx13 (by simp)
  refine RP_e rfl (ef_app appPart st12 hac rfl rfl 0 rfl rfl rfl (by simp only [maxLen]; omega) (by omega)) ?_
  rintro _ w15 ⟨v1, rfl, hac, st16, hx17⟩
  refine RP_sg 1 [.p v1] [(2, v1)] trivial ?_
  refine RP_nil <| n_then <| W_ret <| ret_of (P := Tryd.prog) (fn := Tryd.f10) (m := [(2, v1)]) (w := w15) (res1 rfl (rv_tmp rfl)) ?_
  exact (by obtain ⟨b1, c1, rfl⟩ := ownsRow.form' hac.own; exact ⟨b1, c1, rfl, InS.of_own hac.own, st16.ext⟩)
theorem right_cr {w : World} {b : Option Addr} {c : Nat} {L : List Ent} (node : Int) (hin : InS w b (entCells L)) :
    CR Tryd.prog 11 [.int .i64 node, .slice b L.length c] w fun v w' => v = .bool (loadErr node 1099511627776 L == 0) ∧ Ext [] w w' := by
  have st := St.init w []
  refine CR_enter Tryd.func11 rfl Tryd.ntmps11 rfl ?_
  refine W_seq <| W_region ?_
  let a1 : Value := .slice b L.length c
  refine RP_sg 1 [.p (.bool false)] [(0, .int .i64 node), (1, a1)] trivial ?_
  refine RP_nil <| n_then <| W_seq <| W_region <| RP_sg 2 [.p (.int .i64 node), .p a1] [(8, .int .i64 node), (9, a1)] trivial ?_
  refine RP_e rfl (ef_call (k := 41) (args := [.int .i64 node, .int .i64 1099511627776, a1]) (refLoad_cr node 1099511627776 hin) body_41 (by kernel_rfl)) ?_
  rintro _ w2 ⟨_, rfl, u, rfl, hx4, -, -⟩
  have st3 := st.call0 hx4
  refine RP_sg 5 [.p (.tuple #[u, .int .i64 (loadErr node 1099511627776 L)]), .p u, .p (.int .i64 (loadErr node 1099511627776 L)), .p u, .p (.int .i64 (loadErr node 1099511627776 L))] [(6, .int .i64 (loadErr node 1099511627776 L))] trivial ?_
  refine RP_nil <| n_then <| W_seq <| W_region <| RP_sg 3 [.p (.int .i64 (loadErr node 1099511627776 L)), .p (.bool ((loadErr node 1099511627776 L) == 0)), .p (.bool ((loadErr node 1099511627776 L) == 0))] [(4, .bool ((loadErr node 1099511627776 L) == 0))] trivial ?_
  refine RP_nil <| n_then <| W_ret <| ret_of (P := Tryd.prog) (fn := Tryd.f11) (m := [(4, .bool ((loadErr node 1099511627776 L) == 0))]) (w := w2) (res1 rfl (rv_tmp rfl)) ?_
  exact ⟨rfl, st3.ext⟩
end Go.Proofs.YtcopemgkjbaaeaaDoor
namespace Go.Proofs.YtcopemgkjbaaeaaDoor
set_option linter.all false
open Go.RowKit
theorem loadE_all (clock : Int) : ∀ (l : List Ent) (p : Option Ent), loadE clock p l = 0 → ∀ e ∈ l, e.check = 0
  | [], _, _, e, he => by cases he
  | x :: l, p, h, e, he => by
    rw [loadE] at h
    have hx : okE clock p x = 0 := by
      rcases Bool.eq_false_or_eq_true (okE clock p x != 0) with hc | hc
      · rw [hc] at h; exact h
      · simpa using hc
    have hc : (okE clock p x != 0) = false := by rw [hx]; rfl
    rw [hc] at h
    rcases List.mem_cons.1 he with rfl | he
    · unfold okE at hx
      rcases Bool.eq_false_or_eq_true (e.check != 0) with hd | hd
      · rw [hd] at hx; exact hx
      · simpa using hd
    · exact loadE_all clock l _ h e he
theorem loadErr_ok {node clock : Int} {l : List Ent} (h : loadErr node clock l = 0) : l.length ≤ 256 ∧ ∀ e ∈ l, e.check = 0 := by
  unfold loadErr at h
  cases h1 : decide (node < 0) <;> rw [h1] at h
  · cases h2 : decide (node ≥ 8) <;> rw [h2] at h
    · cases h3 : decide (clock < 0) <;> rw [h3] at h
      · cases h4 : decide (clock > 1099511627776) <;> rw [h4] at h
        · cases h5 : decide (((l.length : Nat) : Int) > 256) <;> rw [h5] at h
          · have := of_decide_eq_false h5
            exact ⟨by omega, loadE_all clock l none h⟩
          · cases h
        · cases h
      · cases h
    · cases h
  · cases h
end Go.Proofs.YtcopemgkjbaaeaaDoor
namespace Go.Proofs.YtcopemgkjbaaeaaDoor
set_option linter.all false
open Go.RowKit
def cellsAt (w : World) (k : Nat) : Prop := ∃ o : Obj, w.heap[k]? = some o ∧ o.isCells = true
structure Grow (B : Nat) (w w' : World) : Prop where
  os : w'.os = w.os
  tape : w'.tape = w.tape
  output : w'.output = w.output
  size : w.heap.size ≤ w'.heap.size
  block : ∀ k, k < w.heap.size → (k < B ∨ cellsAt w k) → w'.heap[k]? = w.heap[k]?
def yieldT : List Nat := [186, 114, 117]
def isHard : Obj → Bool
  | .cells _ t _ => yieldT.contains t
  | _ => true
theorem isHard_of {o : Obj} (h : o.isCells = false) : isHard o = true := by cases o <;> first | rfl | cases h
def softAt (w : World) (k : Nat) : Prop := ∃ o : Obj, w.heap[k]? = some o ∧ isHard o = false
structure KeepsN (B : Nat) (w w' : World) : Prop where
  size : w.heap.size ≤ w'.heap.size
  same : ∀ k o, B ≤ k → w.heap[k]? = some o → isHard o = true → w'.heap[k]? = some o
section
variable {B B' : Nat} {w w' w'' w0 : World} {X : List Nat}
theorem lt_of_get {k : Nat} {o : Obj} (h : w.heap[k]? = some o) : k < w.heap.size := (Array.getElem?_eq_some_iff.1 h).1
theorem Grow.refl (B : Nat) (w : World) : Grow B w w := ⟨rfl, rfl, rfl, Nat.le_refl _, fun _ _ _ => rfl⟩
theorem cellsAt.keep {k : Nat} (h : cellsAt w k) (hk : w'.heap[k]? = w.heap[k]?) : cellsAt w' k := by obtain ⟨o, h1, h2⟩ := h; exact ⟨o, hk.trans h1, h2⟩
theorem Grow.trans (h : Grow B w w') (h' : Grow B w' w'') : Grow B w w'' :=
  ⟨h'.os.trans h.os, h'.tape.trans h.tape, h'.output.trans h.output, Nat.le_trans h.size h'.size, fun k hk hc => by
    have h1 := h.block k hk hc
    exact (h'.block k (Nat.lt_of_lt_of_le hk h.size) (hc.imp id fun hc => hc.keep h1)).trans h1⟩
theorem Grow.mono (h : Grow B w w') (hb : B' ≤ B) : Grow B' w w' := ⟨h.os, h.tape, h.output, h.size, fun k hk hc => h.block k hk (hc.imp (fun h => by omega) id)⟩
theorem Grow.of_ext (h : Ext [] w w') : Grow B w w' := ⟨h.os, h.tape, h.output, h.size, fun k hk _ => h.block k hk (by simp)⟩
theorem Grow.putObj {l : Nat} {o o' : Obj} (hl : w.heap[l]? = some o) (ho : o.isCells = false) (hB : B ≤ l) : Grow B w (w.putObj l o') :=
  ⟨rfl, rfl, rfl, by simp, fun k _ hc => World.putObj_heap_other (by
    rintro rfl
    rcases hc with hc | ⟨o2, h1, h2⟩
    · omega
    · rw [hl] at h1; injection h1 with h1; subst h1; rw [ho] at h2; cases h2)⟩
theorem Grow.alloc (o : Obj) : Grow B w (w.alloc o) := ⟨rfl, rfl, rfl, by simp, fun k hk _ => Below.heap_alloc w o k hk⟩
theorem KeepsN.refl (B : Nat) (w : World) : KeepsN B w w := ⟨Nat.le_refl _, fun _ _ _ h _ => h⟩
theorem KeepsN.trans (h : KeepsN B w w') (h' : KeepsN B w' w'') : KeepsN B w w'' := ⟨Nat.le_trans h.size h'.size, fun k o hb hk ho => h'.same k o hb (h.same k o hb hk ho) ho⟩
theorem KeepsN.mono (h : KeepsN B w w') (hb : B ≤ B') : KeepsN B' w w' := ⟨h.size, fun k o hk => h.same k o (Nat.le_trans hb hk)⟩
theorem KeepsN.ext (h : KeepsN B w w') (hx : Ext X w' w'') (hX : ∀ k ∈ X, softAt w' k ∨ k < B) : KeepsN B w w'' :=
  ⟨Nat.le_trans h.size hx.size, fun k o hb hk ho => hx.blk (h.same k o hb hk ho) fun hm => by
    rcases hX k hm with ⟨o2, h1, h2⟩ | h1
    · rw [h.same k o hb hk ho] at h1; injection h1 with h1; subst h1; rw [ho] at h2; cases h2
    · omega⟩
theorem KeepsN.ext0 (h : KeepsN B w w') (hx : Ext [] w' w'') : KeepsN B w w'' := h.ext hx (by simp)
theorem KeepsN.drew (h : KeepsN B w w') : KeepsN B w w'.drew := ⟨h.size, h.same⟩
theorem KeepsN.get (h : KeepsN B w w') {k : Nat} {o : Obj} (hk : w.heap[k]? = some o) (ho : o.isCells = false) (hB : B ≤ k) : w'.heap[k]? = some o := h.same k o hB hk (isHard_of ho)
theorem KeepsN.blk (h : KeepsN B w w') {g : Nat} {t : TypeId} {cs : Array Value} (hb : Blk w g t cs) (ht : yieldT.contains t = true) (hB : B ≤ g) : Blk w' g t cs := h.same g _ hB hb ht
theorem Blk.softAt {g : Nat} {t : TypeId} {cs : Array Value} (h : Blk w g t cs) (ht : yieldT.contains t = false) : softAt w g := ⟨_, h, ht⟩
theorem KeepsN.ext1 {g : Nat} {t : TypeId} {cs : Array Value} (h : KeepsN B w w') (hx : Ext [g] w' w'') (hb : Blk w' g t cs) (ht : yieldT.contains t = false) : KeepsN B w w'' :=
  h.ext hx fun k hk => by simp only [List.mem_singleton] at hk; subst hk; exact .inl (hb.softAt ht)
def IsDef (w : World) (D : Nat) : Prop := w.heap[D]? = some (.deferred (some []))
theorem IsDef.ext {D : Nat} (h : IsDef w D) (hx : Ext X w w') (hD : D ∉ X) : IsDef w' D := hx.blk h hD
theorem IsDef.ext0 {D : Nat} (h : IsDef w D) (hx : Ext [] w w') : IsDef w' D := h.ext hx (by simp)
theorem IsDef.ne {D g : Nat} {t : TypeId} {cs : Array Value} (h : IsDef w D) (hb : Blk w g t cs) : D ≠ g := by
  rintro rfl
  unfold IsDef at h; unfold Blk at hb
  rw [h] at hb; cases hb
theorem IsDef.ext1 {D g : Nat} {t : TypeId} {cs : Array Value} (h : IsDef w D) (hx : Ext [g] w w') (hb : Blk w g t cs) : IsDef w' D := h.ext hx (by simpa using h.ne hb)
theorem IsDef.grow {D : Nat} (h : IsDef w D) (hg : Grow B w w') (hD : D < B) : IsDef w' D := (hg.block D (lt_of_get h) (.inl hD)).trans h
theorem Blk.cellsAt {g : Nat} {t : TypeId} {cs : Array Value} (h : Blk w g t cs) : cellsAt w g := ⟨_, h, rfl⟩
theorem Blk.grow {g : Nat} {t : TypeId} {cs : Array Value} (h : Blk w g t cs) (hg : Grow B w w') : Blk w' g t cs := (hg.block g h.lt (.inr h.cellsAt)).trans h
theorem Ext.grow (h : Ext X w0 w) (hg : Grow B w w') (hB : w0.heap.size ≤ B) : Ext X w0 w' :=
  ⟨hg.os.trans h.os, hg.tape.trans h.tape, hg.output.trans h.output, Nat.le_trans h.size hg.size, fun k hk hx => (hg.block k (Nat.lt_of_lt_of_le hk h.size) (.inl (by omega))).trans (h.block k hk hx)⟩
theorem St.grow {M : List (Nat × TypeId × List Value)} (h : St X w0 w M) (hg : Grow B w w') (hB : w0.heap.size ≤ B) : St X w0 w' M := ⟨h.ext.grow hg hB, h.nodup, fun b hb => (h.blk b hb).grow hg⟩
end
def Abides (B : Nat) (J : World → Prop) : Prop := ∀ W W', J W → Grow B W W' → J W'
def YieldsAt (P : Program) (l : Nat) (vs : List Value) (W : World) (R : Bool → World → Prop) : Prop := YieldAt Fence.wide 0 P l vs.toArray W fun e W' => ∃ b, e = .returned (.bool b) ∧ R b W'
def Iter {α : Type} (P : Program) (gf : FuncId) (cap : List Value) (encs : α → List Value) (xs : List α) (Nd : World → Prop) : Prop :=
  ∀ (l : Nat) (J : List α → World → Prop) (Jx : World → Prop) (W : World), l < W.heap.size → (∀ p, Abides W.heap.size (J p)) → Abides W.heap.size Jx → (∀ p W1, J p W1 → Nd W1) → (∀ W1, Jx W1 → Nd W1) →
    (∀ pre x W1, J pre W1 → pre ++ [x] <+: xs → YieldsAt P l (encs x) W1 fun b W2 => KeepsN W.heap.size W1 W2 ∧ cond b (J (pre ++ [x]) W2) (Jx W2)) →
    J [] W → CR P gf (.func (.yield l) #[] #[] :: cap) W fun _ W' => J xs W' ∨ Jx W'
section
variable {P : Program} {n : FrC} {m : SM} {w w0 w' : World}
theorem ef_yield {l : Nat} {x : Operand} {xs : Array Operand} {ats : Array TypeId} {vs : List Value} {R : Bool → World → Prop} {dst : Option Nat} {ty : TypeId} {pos : String} {af : Array Edge} {gd : Option (Nat × Bool)}
    (h : YieldsAt P l vs w R) (hx : opv m x = some (.func (.yield l) #[] #[])) (ha : args_ m xs.toList = some vs) :
    EfY P m ⟨dst, .call ⟨.value x, xs, ats⟩, ty, pos, af, gd⟩ w fun v W => ∃ b, v = .bool b ∧ R b W := fun ρ hρ => by
  obtain ⟨fn, tmps, assign, body, h1, h2⟩ := h
  refine ⟨l, fn, tmps, assign, body, ?_, h2.mono ?_⟩
  · have hm : xs.map ρ = vs.toArray := by
      have := args_agrees hρ ha
      rw [← this, ← List.map_toArray, Array.toArray_toList]
    simp only [execOp, resolve, Deferred.ofValue, hρ.get hx, hm]
    simp [invoke, h1]
  · rintro e w' ⟨b, rfl, hR⟩
    exact ⟨.bool b, rfl, b, rfl, hR⟩
def roundQ {α : Type} (B : Nat) (W : World) (J : List α → World → Prop) (Jx : Code → World → Prop) (pre : List α) : SQ
  | .normal, _, w => KeepsN B W w ∧ J pre w
  | .ret, _, w => KeepsN B W w ∧ Jx .ret w
  | .exit id, _, w => KeepsN B W w ∧ Jx (.exit id) w
  | .goto t, _, w => KeepsN B W w ∧ Jx (.goto t) w
  | _, _, _ => False
def assignQ {α : Type} (P : Program) (n : FrC) (B : Nat) (W0 : World) (body : Code) (J : List α → World → Prop) (Jx : Code → World → Prop) (pre : List α) : SQ
  | .normal, m, w1 => KeepsN B W0 w1 ∧ ∀ W2, Grow B w1 W2 → W P n body (roundQ B W2 J Jx pre) m W2
  | _, _, _ => False
def zipP : List Nat → List Value → SM → SM
  | p :: ps, v :: vs, m => zipP ps vs ((p, v) :: m)
  | _, _, m => m
theorem slots_zip {k : Nat} : ∀ (ps : List Nat) (vs : List Value) (a : Act) (m : SM), Slots k a m → ps.all (fun p => Nat.blt p k) = true →
    Slots k { a with tmps := (ps.zip vs).foldl (fun t (q : Nat × Value) => t.setIfInBounds q.1 q.2) a.tmps } (zipP ps vs m)
  | [], vs, a, m, h, _ => by simpa [zipP] using h
  | p :: ps, [], a, m, h, _ => by simpa [zipP] using h
  | p :: ps, v :: vs, a, m, h, hp => by
    simp only [List.all_cons, Bool.and_eq_true] at hp
    have := slots_zip ps vs (a.put (some p) v) ((p, v) :: m) (h.put hp.1 v) hp.2
    simpa [zipP, Act.put] using this
theorem W_range {α : Type} {k : Nat} {g : Operand} {ps : Array Tmp} {assign body : Code} {Q : SQ} {gf : FuncId} {cap : List Value} {encs : α → List Value} {xs : List α} {Nd : World → Prop}
    (it : Iter P gf cap encs xs Nd) (hg : opv m g = some (.func (.func gf) #[] cap.toArray)) (hb : HasBody P gf) (hps : ∀ x, (encs x).length = ps.size) (hpk : ps.toList.all (fun p => Nat.blt p k) = true)
    (J : List α → World → Prop) (Jx : Code → World → Prop) (hJ : ∀ p, Abides w.heap.size (J p)) (hJx : ∀ c, Abides w.heap.size (Jx c)) (hNd : ∀ p W, J p W → Nd W) (hNdx : ∀ c W, Jx c W → Nd W) (h0 : J [] w)
    (hround : ∀ l pre x W0, J pre W0 → pre ++ [x] <+: xs → w.heap.size ≤ W0.heap.size → W P ⟨k, some l⟩ assign (assignQ P ⟨k, some l⟩ w.heap.size W0 body J Jx (pre ++ [x])) (zipP ps.toList (encs x) (unmark m)) W0)
    (hdone : ∀ D W', w.heap.size ≤ D → J xs W' → W'.heap[D]? = some (.deferred (some [])) → Q .normal ((mkK, .pointer (some ⟨D, 0, none⟩)) :: m) W')
    (hstop : ∀ c D W', w.heap.size ≤ D → Jx c W' → W'.heap[D]? = some (.deferred (some [])) → W P ⟨k, none⟩ c Q ((mkK, .pointer (some ⟨D, 0, none⟩)) :: m) W') :
    W P ⟨k, none⟩ (.rangeFunc g ps assign body) Q m w := by
  intro a ha
  refine wpIn_rangeFunc fun fn _ => ?_
  have hro : (fen none).round = none := rfl
  rw [show (fen (FrC.mk k none).ro).round = none from rfl]
  obtain ⟨rec, hrec⟩ : ∃ rec : LoopState → Option Code → Loop, rec = fun st pe => { state := st, pending := pe, fn, tmps := a.tmps, params := ps, assign, body, defers := w.heap.size } := ⟨_, rfl⟩
  obtain ⟨W1, hW1⟩ : ∃ W1, (w.alloc (.deferred (some []))).alloc (.loop (rec .ready none)) = W1 := ⟨_, rfl⟩
  have hL1 : W1.heap[w.heap.size + 1]? = some (.loop (rec .ready none)) := by
    rw [← hW1]; have := World.alloc_heap_new (w.alloc (.deferred (some []))) (.loop (rec .ready none)); rwa [World.size_alloc] at this
  have hK1 : W1.heap[w.heap.size]? = some (.deferred (some [])) := by
    rw [← hW1]; exact (Below.heap_alloc _ _ _ (by simp)).trans (World.alloc_heap_new w _)
  have hg1 : Grow w.heap.size w W1 := by rw [← hW1]; exact Grow.trans (Grow.alloc _) (Grow.alloc _)
  have hsz : W1.heap.size = w.heap.size + 2 := by rw [← hW1]; simp
  have hI1 : J [] W1 := hJ _ _ _ h0 hg1
  refine ⟨w.heap.size + 1, [{ target := .collected w.heap.size, args := #[] }], W1, { target := .fn (.func gf) cap.toArray, args := #[.func (.yield (w.heap.size + 1)) #[] #[]] }, W1, gf,
    #[.func (.yield (w.heap.size + 1)) #[] #[]] ++ cap.toArray, W1, ?_, ?_, fun _ _ => trivial, ?_, fun h => (by cases h), ?_⟩
  · rw [← hW1, hrec]; exact run_enterLoop_outer _ _ _ _ _
  · simp only [resolve, ha.agrees _ _ hg]
    simp [go_sem]
  · simp [invoke, go_sem, hb _ _]
  · have hargs : #[Value.func (.yield (w.heap.size + 1)) #[] #[]] ++ cap.toArray = (Value.func (.yield (w.heap.size + 1)) #[] #[] :: cap).toArray := by simp
    rw [hargs]
    have cr := it (w.heap.size + 1)
      (fun pre W => J pre W ∧ W.heap[w.heap.size + 1]? = some (.loop (rec .ready none)) ∧ W.heap[w.heap.size]? = some (.deferred (some [])))
      (fun W => ∃ c, Jx c W ∧ W.heap[w.heap.size + 1]? = some (.loop (rec .done (some c))) ∧ W.heap[w.heap.size]? = some (.deferred (some [])))
      W1 (by omega)
      (fun p A B hA hAB => ⟨hJ _ _ _ hA.1 (hAB.mono (by omega)), (hAB.block _ (lt_of_get hA.2.1) (.inl (by omega))).trans hA.2.1, (hAB.block _ (lt_of_get hA.2.2) (.inl (by omega))).trans hA.2.2⟩)
      (fun A B hA hAB => by
        obtain ⟨c, h1, h2, h3⟩ := hA
        exact ⟨c, hJx _ _ _ h1 (hAB.mono (by omega)), (hAB.block _ (lt_of_get h2) (.inl (by omega))).trans h2, (hAB.block _ (lt_of_get h3) (.inl (by omega))).trans h3⟩)
      (fun p W h => hNd _ _ h.1) (fun W h => by obtain ⟨c, h, _⟩ := h; exact hNdx _ _ h) ?_ ⟨hI1, hL1, hK1⟩
    · refine callsIn_fen.2 (Calls.mono cr ?_)
      rintro e W2 ⟨v, rfl, h⟩
      rcases h with ⟨hi, hl, hk⟩ | ⟨c, hi, hl, hk⟩
      · refine ⟨none, _, by have := run_endLoop (P := P) hl (by rw [hrec]; simp); rw [hrec] at this; exact this, (mkK, .pointer (some ⟨w.heap.size, 0, none⟩)) :: m, ?_, ?_⟩
        · refine ⟨?_, ha.size, ha.small, fun i v hv => ?_⟩
          · simp only [marksOf, Nat.beq_refl, cond_true, List.map_cons, markB]
            rw [ha.defers]; rfl
          · exact ha.get i v (by simpa only [look, Nat.beq_refl, cond_true] using hv)
        · exact hdone _ _ (Nat.le_refl _) (hJ _ _ _ hi (Grow.putObj hl rfl (by omega))) ((World.putObj_heap_other (by omega)).trans hk)
      · refine ⟨some c, _, by have := run_endLoop (P := P) hl (by rw [hrec]; simp); rw [hrec] at this; exact this, ?_⟩
        have hsl : Slots k { a with defers := [{ target := .collected w.heap.size, args := #[] }] ++ a.defers } ((mkK, .pointer (some ⟨w.heap.size, 0, none⟩)) :: m) := by
          refine ⟨?_, ha.size, ha.small, fun i v hv => ?_⟩
          · simp only [marksOf, Nat.beq_refl, cond_true, List.map_cons, markB]
            rw [ha.defers]; rfl
          · exact ha.get i v (by simpa only [look, Nat.beq_refl, cond_true] using hv)
        exact hstop c _ _ (Nat.le_refl _) (hJx _ _ _ hi (Grow.putObj hl rfl (by omega))) ((World.putObj_heap_other (by omega)).trans hk) _ hsl
    · -- one round
      rintro pre x W0 ⟨hi, hl, hk⟩ hpre
      have hlt : w.heap.size + 1 < W0.heap.size := lt_of_get hl
      have hy := run_yield (P := P) (args := (encs x).toArray) hl (by rw [hrec]; simpa using hps x)
      rw [hrec] at hy
      have hsl : Slots k { tmps := (ps.zip (encs x).toArray).foldl (fun tmps (t, a) => tmps.setIfInBounds t a) a.tmps, defers := [] } (zipP ps.toList (encs x) (unmark m)) := by
        have h1 : Slots k { tmps := a.tmps, defers := [] } (unmark m) := ⟨by rw [marksOf_unmark]; rfl, ha.size, ha.small, fun i v hv => ha.get i v (by rwa [look_unmark] at hv)⟩
        have h2 := slots_zip ps.toList (encs x) _ _ h1 hpk
        have e : (ps.zip (encs x).toArray).foldl (fun tmps (t, a) => tmps.setIfInBounds t a) a.tmps = (ps.toList.zip (encs x)).foldl (fun t (q : Nat × Value) => t.setIfInBounds q.1 q.2) a.tmps := by
          rw [← Array.foldl_toList, Array.toList_zip]
        rw [e]; exact h2
      refine ⟨fn, _, assign, body, hy, roundIn_of_wpIn (F := Fence.wide) trivial (wpIn_mono (hround _ pre x W0 hi hpre (by omega) _ hsl) ?_)⟩
      intro e a1 w1 hq
      cases e with
      | panic ch => exact hq.elim
      | outgrown => exact hq.elim
      | ret => obtain ⟨_, _, h⟩ := hq; exact h.elim
      | exit id => obtain ⟨_, _, h⟩ := hq; exact h.elim
      | goto t => obtain ⟨_, _, h⟩ := hq; exact h.elim
      | normal =>
        obtain ⟨m1, hs1, hkn, hbody⟩ := hq
        have hl1 := hkn.get hl rfl (by omega)
        have hk1 := hkn.get hk rfl (Nat.le_refl _)
        refine ⟨_, run_beginRound hl1 (by rw [hrec]), ?_⟩
        have hlt1 := lt_of_get hl1
        have hl2 : (w1.putObj (w.heap.size + 1) (.loop { rec .ready none with state := .busy })).heap[w.heap.size + 1]? = some (.loop { rec .ready none with state := .busy }) := World.putObj_heap_same hlt1
        have hk2 : (w1.putObj (w.heap.size + 1) (.loop { rec .ready none with state := .busy })).heap[w.heap.size]? = some (.deferred (some [])) := (World.putObj_heap_other (by omega)).trans hk1
        have hkp : ∀ {A : World} {o : Obj}, KeepsN W1.heap.size A (A.putObj (w.heap.size + 1) o) := fun {A o} => ⟨by simp, fun j o' hj ho' _ => (World.putObj_heap_other (by omega)).trans ho'⟩
        refine wpIn_mono (hbody _ (Grow.putObj hl1 rfl (by omega)) _ hs1) ?_
        have fin : ∀ (jump : Option Code) (W3 : World), KeepsN w.heap.size (w1.putObj (w.heap.size + 1) (.loop { rec .ready none with state := .busy })) W3 →
            (Instr.endRound (w.heap.size + 1) jump).run P W3 = .ok (.bool jump.isNone) (W3.putObj (w.heap.size + 1) (.loop (rec (if jump.isNone then .ready else .done) jump))) ∧
            W3.heap[w.heap.size + 1]? = some (.loop { rec .ready none with state := .busy }) ∧
            (W3.putObj (w.heap.size + 1) (.loop (rec (if jump.isNone then .ready else .done) jump))).heap[w.heap.size + 1]? = some (.loop (rec (if jump.isNone then .ready else .done) jump)) ∧
            (W3.putObj (w.heap.size + 1) (.loop (rec (if jump.isNone then .ready else .done) jump))).heap[w.heap.size]? = some (.deferred (some [])) ∧
            KeepsN W1.heap.size W0 (W3.putObj (w.heap.size + 1) (.loop (rec (if jump.isNone then .ready else .done) jump))) := fun jump W3 hk3 => by
          have hl3 := hk3.get hl2 rfl (by omega)
          have := run_endRound (P := P) jump hl3
          rw [hrec] at this ⊢
          exact ⟨this, by rw [hrec] at hl3; exact hl3, World.putObj_heap_same (lt_of_get hl3), (World.putObj_heap_other (by omega)).trans (hk3.get hk2 rfl (Nat.le_refl _)),
            (((hkn.mono (by omega)).trans hkp).trans (hk3.mono (by omega))).trans hkp⟩
        rintro e a3 W3 hp
        cases e with
        | normal =>
          obtain ⟨_, _, hk3, hi3⟩ := hp
          obtain ⟨hr, hl3, hl4, hk4, hkn4⟩ := fin none W3 hk3
          exact ⟨_, _, hr, true, rfl, hkn4, hJ _ _ _ hi3 (Grow.putObj hl3 rfl (by omega)), hl4, hk4⟩
        | ret =>
          obtain ⟨_, _, hk3, hi3⟩ := hp
          obtain ⟨hr, hl3, hl4, hk4, hkn4⟩ := fin (some .ret) W3 hk3
          exact ⟨_, _, hr, false, rfl, hkn4, .ret, hJx _ _ _ hi3 (Grow.putObj hl3 rfl (by omega)), hl4, hk4⟩
        | exit id =>
          obtain ⟨_, _, hk3, hi3⟩ := hp
          obtain ⟨hr, hl3, hl4, hk4, hkn4⟩ := fin (some (.exit id)) W3 hk3
          exact ⟨_, _, hr, false, rfl, hkn4, .exit id, hJx _ _ _ hi3 (Grow.putObj hl3 rfl (by omega)), hl4, hk4⟩
        | goto t =>
          obtain ⟨_, _, hk3, hi3⟩ := hp
          obtain ⟨hr, hl3, hl4, hk4, hkn4⟩ := fin (some (.goto t)) W3 hk3
          exact ⟨_, _, hr, false, rfl, hkn4, .goto t, hJx _ _ _ hi3 (Grow.putObj hl3 rfl (by omega)), hl4, hk4⟩
        | panic ch => exact hp.elim
        | outgrown => exact hp.elim
theorem assign_end {α : Type} {B : Nat} {W0 : World} {body : Code} {J : List α → World → Prop} {Jx : Code → World → Prop} {pre : List α} (h1 : KeepsN B W0 w) (h2 : ∀ W2, Grow B w W2 → W P n body (roundQ B W2 J Jx pre) m W2) : assignQ P n B W0 body J Jx pre .normal m w := ⟨h1, h2⟩
theorem round_end {α : Type} {B : Nat} {W0 : World} {J : List α → World → Prop} {Jx : Code → World → Prop} {pre : List α} (h1 : KeepsN B W0 w) (h2 : J pre w) : roundQ B W0 J Jx pre .normal m w := ⟨h1, h2⟩
theorem round_ret {α : Type} {B : Nat} {W0 : World} {J : List α → World → Prop} {Jx : Code → World → Prop} {pre : List α} (h1 : KeepsN B W0 w) (h2 : Jx .ret w) : roundQ B W0 J Jx pre .ret m w := ⟨h1, h2⟩
theorem ret_ofM {fn : Func} {G : Value → World → Prop} {D : Nat} (hm : marksOf m = [D]) (hD : w.heap[D]? = some (.deferred (some []))) (h : ∀ w', Grow D w w' → ∃ v, Res P fn m w' v ∧ G v w') : retG P fn G .ret m w := by
  show ShutAll P _ (marksOf m) w
  rw [hm]
  obtain ⟨v, h1, h2⟩ := h _ (Grow.putObj (o' := .deferred none) hD rfl (Nat.le_refl _))
  exact ⟨_, run_takeDeferred hD, v, h1, v, rfl, h2⟩
theorem end_ofM {fn : Func} {G : Value → World → Prop} {D : Nat} (hm : marksOf m = [D]) (hD : w.heap[D]? = some (.deferred (some []))) (h : ∀ w', Grow D w w' → ∃ v, Res P fn m w' v ∧ G v w') : retG P fn G .normal m w :=
  ret_ofM (P := P) hm hD h
end
end Go.Proofs.YtcopemgkjbaaeaaDoor
namespace Go.Proofs.YtcopemgkjbaaeaaDoor
set_option linter.all false
open Go.RowKit
section
variable {B : Nat} {w w' w0 : World} {X : List Nat}
theorem IsT.grow (hg : Grow B w w') : ∀ {t : T} {p : Option Addr}, IsT w p t → IsT w' p t
  | .nil, _, h => h
  | .node _ _ _, _, ⟨g, pl, pr, hp, hb, hl, hr⟩ => ⟨g, pl, pr, hp, hb.grow hg, hl.grow hg, hr.grow hg⟩
theorem Tr.grow {bt bm : Nat} {j : Int} {p : Option Addr} (h : Tr w bt bm j p) (hg : Grow B w w') : Tr w' bt bm j p := ⟨h.t.grow hg, h.m.grow hg⟩
theorem ownsRow.grow {base : Nat} {e : TypeId} {size : Nat} {v : Value} {k : Nat} {xs : List Value} (h : w.ownsRow base e size v k xs) (hg : Grow B w w') : w'.ownsRow base e size v k xs := by
  refine ⟨h.1, ?_⟩
  rcases h.2 with hn | ⟨g, cap, cur, rfl, hb, hh, rest⟩
  · exact .inl hn
  · exact .inr ⟨g, cap, cur, rfl, hb, (hg.block g (Array.getElem?_eq_some_iff.1 hh).1 (.inr ⟨_, hh, rfl⟩)).trans hh, rest⟩
theorem Acc.grow {e : TypeId} {size k : Nat} {v : Value} {xs : List Value} (h : Acc w0 X w e size v k xs) (hg : Grow B w w') : Acc w0 X w' e size v k xs := ⟨ownsRow.grow h.own hg, h.inn⟩
theorem cell_cells {k o : Nat} {u : Value} (h : w.cell? ⟨k, o, none⟩ = some u) : cellsAt w k := by
  unfold World.cell? at h
  cases ho : w.heap[k]? with
  | none => simp [ho] at h
  | some x => exact ⟨x, ho, by cases x <;> simp_all [Obj.isCells]⟩
theorem InS.grow {b : Option Addr} {cs : List Value} (h : InS w b cs) (hg : Grow B w w') : InS w' b cs := by
  rcases h with h | ⟨h1, h2, h3⟩
  · exact .inl h
  · refine .inr ⟨h1, Nat.lt_of_lt_of_le h2 hg.size, fun j u hu => ?_⟩
    have hc := h3 j u hu
    rw [cell_block (hg.block _ h2 (.inr (cell_cells hc)))]
    exact hc
theorem Grow.drew : Grow B w w.drew := ⟨rfl, rfl, rfl, Nat.le_refl _, fun _ _ _ => rfl⟩
theorem KeepsN.extOwn {base : Nat} {e : TypeId} {size : Nat} {v : Value} {k : Nat} {xs : List Value} {w'' : World} (h : KeepsN B w w') (hx : Ext (ownB v) w' w'') (ho : w'.ownsRow base e size v k xs) (ht : yieldT.contains e = false) : KeepsN B w w'' :=
  h.ext hx fun q hq => by
    rcases ho.2 with ⟨rfl, _⟩ | ⟨g, cap, cur, rfl, hb, hh, rest⟩
    · simp [ownB, Value.ownBlock] at hq
    · simp only [ownB, Value.ownBlock, Option.toList_some, List.mem_singleton] at hq
      subst hq
      exact .inl ⟨_, hh, ht⟩
end
theorem apart_new2 {w : World} {v : Value} {g5 g2 : Nat} {t5 t2 : TypeId} {c5 c2 : List Value} (hlo : ∀ g ∈ ownB v, g < w.heap.size ∧ 0 ≤ g) (h5 : w.heap.size ≤ g5) (h2 : g2 ∉ ownB v) :
    ∀ q ∈ [(g5, t5, c5), (g2, t2, c2)].map (·.1), q ∉ ownB v := fun q hq hm => by
  simp only [List.map_cons, List.map_nil, List.mem_cons, List.not_mem_nil, or_false] at hq
  rcases hq with rfl | rfl
  · have := (hlo _ hm).1; omega
  · exact h2 hm
theorem apart_cons {w : World} {v : Value} {g5 : Nat} {t5 : TypeId} {c5 : List Value} {M : List (Nat × TypeId × List Value)} (hlo : ∀ g ∈ ownB v, g < w.heap.size ∧ 0 ≤ g) (h5 : w.heap.size ≤ g5) (h2 : ∀ q ∈ M.map (·.1), q ∉ ownB v) :
    ∀ q ∈ ((g5, t5, c5) :: M).map (·.1), q ∉ ownB v := fun q hq hm => by
  simp only [List.map_cons, List.mem_cons] at hq
  rcases hq with rfl | hq
  · have := (hlo _ hm).1; omega
  · exact h2 q (by simpa using hq) hm
def NodesKept (W0 W : World) : Prop := ∀ g cs, Blk W0 g 181 cs → Blk W g 181 cs
theorem NodesKept.refl (W : World) : NodesKept W W := fun _ _ h => h
theorem NodesKept.trans {A B C : World} (h : NodesKept A B) (k : NodesKept B C) : NodesKept A C := fun g cs hb => k g cs (h g cs hb)
theorem NodesKept.of_ext {X : List Nat} {W0 W : World} (h : Ext X W0 W) (hX : NoNode W0 X) : NodesKept W0 W := fun g _ hb => hb.ext h fun hx => hX _ _ hx hb
theorem NodesKept.ist {W0 W : World} (h : NodesKept W0 W) : ∀ {t : T} {p : Option Addr}, IsT W0 p t → IsT W p t
  | .nil, _, ht => ht
  | .node _ _ _, _, ⟨g, pl, pr, hp, hb, hl, hr⟩ => ⟨g, pl, pr, hp, h _ _ hb, h.ist hl, h.ist hr⟩
theorem pfx1 {α : Type} {a b c xs : List α} (h : a ++ (b ++ c) <+: xs) : a ++ b <+: xs := ((List.prefix_append (a ++ b) c).trans (by rw [List.append_assoc]; exact h))
def T.rows : T → Int → Int → List Ent
  | .nil, _, _ => []
  | .node e l r, i, j => cond (decide (i ≥ j)) [] (l.rows i (if ((l.size : Nat) : Int) < j then ((l.size : Nat) : Int) else j) ++ (cond (decide (i > ((l.size : Nat) : Int)) || decide (((l.size : Nat) : Int) ≥ j)) [] [e] ++
      r.rows (if 0 > i - ((l.size : Nat) : Int) - 1 then 0 else i - ((l.size : Nat) : Int) - 1) (j - ((l.size : Nat) : Int) - 1)))
end Go.Proofs.YtcopemgkjbaaeaaDoor
namespace Go.Proofs.YtcopemgkjbaaeaaDoor
set_option linter.all false
open Go.RowKit
theorem walk_it : ∀ (t : T) {l : Nat} {J : List Ent → World → Prop} {Jx : World → Prop} {B : Nat} {W0 w : World} {p : Option Addr} {i j : Int} {pre0 xs : List Ent}
    (_ : IsT W0 p t) (_ : ∀ pre W, J pre W → NodesKept W0 W) (_ : ∀ W, Jx W → NodesKept W0 W) (_ : 0 ≤ i) (_ : i ≤ 1000000000) (_ : -1000000000 ≤ j) (_ : j ≤ 1000000000) (_ : t.size ≤ 100000) (_ : ∀ p, Abides B (J p)) (_ : Abides B Jx)
    (_ : ∀ pre x W, J pre W → pre ++ [x] <+: xs → YieldsAt Tryd.prog l [.string x.key, x.v] W fun b W2 => KeepsN B W W2 ∧ cond b (J (pre ++ [x]) W2) (Jx W2))
    (_ : pre0 ++ t.rows i j <+: xs) (_ : J pre0 w),
    CR Tryd.prog 118 [.pointer p, .int .i64 i, .int .i64 j, .func (.yield l) #[] #[]] w fun v w' => (v = .bool true ∧ J (pre0 ++ t.rows i j) w') ∨ (v = .bool false ∧ Jx w')
  | .nil, l, J, Jx, B, W0, w, p, i, j, pre0, xs, hT, hK, hKx, h1, h2, h3, h4, h5, hJ, hJx, hY, hp, hj => by
    have st := St.init w []
    obtain rfl : p = none := hT
    refine CR_enter Tryd.func118 rfl Tryd.ntmps118 rfl ?_
    refine W_seq <| W_region <| RP_sg 1 [.p (.bool false)] [(0, .pointer none), (1, .int .i64 i), (2, .int .i64 j), (3, .func (.yield l) #[] #[])] trivial ?_
    refine RP_nil <| n_then <| W_seq <| W_seq <| W_region <| RP_sg 7 [.p (.pointer none), .p (.bool true), .p (.bool true), .no, .no, .no, .p (.bool true)] [(0, .pointer none), (1, .int .i64 i), (2, .int .i64 j), (3, .func (.yield l) #[] #[]), (16, .bool true)] trivial ?_
    refine RP_nil <| n_then <| W_true rfl ?_
    refine W_seq <| W_region <| RP_sg 1 [.p (.bool true)] [(8, .bool true)] trivial ?_
    refine RP_nil <| n_then <| W_ret <| r_then ?_
    refine ret_of (P := Tryd.prog) (fn := Tryd.f118) (m := [(8, .bool true)]) (w := w) (res1 rfl (rv_tmp rfl)) ?_
    exact .inl ⟨rfl, by simpa [T.rows] using hj⟩
  | .node e l r, yl, J, Jx, B, W0, w, p, i, j, pre0, xs, hT, hK, hKx, h1, h2, h3, h4, h5, hJ, hJx, hY, hp, hj => by
    have ihl := fun {yl J Jx B W0 w p i j pre0 xs} => walk_it l (l := yl) (J := J) (Jx := Jx) (B := B) (W0 := W0) (w := w) (p := p) (i := i) (j := j) (pre0 := pre0) (xs := xs)
    have ihr := fun {yl J Jx B W0 w p i j pre0 xs} => walk_it r (l := yl) (J := J) (Jx := Jx) (B := B) (W0 := W0) (w := w) (p := p) (i := i) (j := j) (pre0 := pre0) (xs := xs)
    have st := St.init w []
    obtain ⟨gn, pl, pr, rfl, hb0, hl, hr⟩ := hT
    have hbn := hK _ _ hj _ _ hb0
    simp only [T.size] at h5
    have hw1 := sub_w (a := i) (b := ((l.size : Nat) : Int)) (by omega) (by omega) (by omega) (by omega)
    have hw2 := sub_w (a := j) (b := ((l.size : Nat) : Int)) (by omega) (by omega) (by omega) (by omega)
    simp only [T.rows] at hp ⊢
    refine CR_enter Tryd.func118 rfl Tryd.ntmps118 rfl ?_
    refine W_seq <| W_region ?_
    let a1 : Value := .pointer (some ⟨gn, 0, none⟩)
    refine RP_sg 1 [.p (.bool false)] [(0, a1), (1, .int .i64 i), (2, .int .i64 j), (3, .func (.yield yl) #[] #[])] trivial ?_
    refine RP_nil <| n_then <| W_seq <| W_seq <| W_region <| RP_sg 7 [.p a1, .p (.bool false), .p (.bool false), .p (.int .i64 i), .p (.int .i64 j), .p (.bool (decide (i ≥ j))), .p (.bool (decide (i ≥ j)))] [(0, a1), (1, .int .i64 i), (2, .int .i64 j), (3, .func (.yield yl) #[] #[]), (16, .bool (decide (i ≥ j)))] trivial ?_
    refine RP_nil <| n_then <| W_cond rfl (fun c16_2 => ?_) (fun c16_2 => ?_)
    ·
     have c16_2p := of_decide_eq_true c16_2
     refine W_seq <| W_region <| RP_sg 1 [.p (.bool true)] [(8, .bool true)] trivial ?_
     refine RP_nil <| n_then <| W_ret <| r_then ?_
     refine ret_of (P := Tryd.prog) (fn := Tryd.f118) (m := [(8, .bool true)]) (w := w) (res1 rfl (rv_tmp rfl)) ?_
     exact .inl ⟨rfl, by (try rw [c16_2]); simpa [List.append_assoc, hw1, hw2, -ge_iff_le, -gt_iff_lt] using hj⟩
    ·
     have c16_2p := of_decide_eq_false c16_2
     refine W_skip <| n_then <| W_seq <| W_region <| RP_sg 4 [.p a1, .p a1, .p (.pointer (some ⟨gn, 12, none⟩)), .l 177 (.pointer (some ⟨gn, 12, none⟩)) (.pointer pl)] [(0, a1), (1, .int .i64 i), (2, .int .i64 j), (3, .func (.yield yl) #[] #[]), (20, .pointer pl)] ⟨ld1b (hbn.ext st.ext List.not_mem_nil) nagg_177 rfl, trivial⟩ ?_
     refine RP_e rfl (ef_call (k := 116) (args := [.pointer pl]) (many_cr (hK _ _ hj |>.ist hl)) body_116 (by kernel_rfl)) ?_
     rintro _ _ ⟨_, rfl, rfl, rfl⟩
     refine RP_sg 1 [.p (.int .i64 ((l.size : Nat) : Int))] [(0, a1), (1, .int .i64 i), (2, .int .i64 j), (3, .func (.yield yl) #[] #[]), (9, .int .i64 ((l.size : Nat) : Int))] trivial ?_
     refine RP_nil <| n_then <| W_seq <| W_regionS ⟨(fun w' => Blk w' gn 181 [.string e.key, .string e.key, .int .i64 e.c, .int .i64 e.n, .string e.val, .bool e.dead, .int .i64 e.tal.k, .int .u64 e.tal.a, .int .u64 e.tal.b, .int .i64 ((T.node e l r).sum.k), .int .u64 ((T.node e l r).sum.a), .int .u64 ((T.node e l r).sum.b), .pointer pl, .pointer pr, .int .i64 (((T.node e l r).size : Nat) : Int), .int .i64 (((T.node e l r).high : Nat) : Int)].toArray), (fun _ => True)⟩ (.cons 1 0 (.cons 1 1 (.cons 1 2 (.cons 1 3 (.cons 1 4 (.cons 1 5 (.cons 1 6 (.cons 1 7 (.cons 1 8 (.cons 2 9 (.cons 1 10 (.cons 1 11 (.cons 1 12 (.cons 1 13 (.cons 1 14 (.cons 1 15 (.cons 1 16 (.cons 1 17 (.cons 1 18 (.cons 1 19 (.cons 1 20 (.cons 1 21 (.cons 1 22 (.cons 1 23 (.cons 1 24 (.cons 1 25 (.cons 1 26 (.cons 1 27 (.cons 1 28 (.cons 2 29 (.cons 1 30 (.cons 1 31 (.cons 1 32 (.cons 1 33 (.cons 1 34 (.cons 1 35 (.cons 1 36 (.cons 1 37 (.cons 1 38 (.cons 1 39 (.cons 1 40 (.cons 1 41 (.cons 1 42 (.cons 1 43 (.cons 1 44 (.cons 1 45 (.cons 1 46 (.cons 2 47 (.cons 1 48 (.cons 0 49 .nil)))))))))))))))))))))))))))))))))))))))))))))))))) 50 (by kernel_rfl) (by kernel_rfl) ?_
     have st6 := st.drew
     replace hj := (hJ _) _ _ hj Grow.drew
     refine RS_sg 9 [.p a1, .p a1, .p (.pointer (some ⟨gn, 12, none⟩)), .l 177 (.pointer (some ⟨gn, 12, none⟩)) (.pointer pl), .p (.int .i64 i), .p (.int .i64 j), .p (.int .i64 ((l.size : Nat) : Int)), .p (.int .i64 (if ((l.size : Nat) : Int) < j then ((l.size : Nat) : Int) else j)), .p (.func (.yield yl) #[] #[])] [(0, a1), (1, .int .i64 i), (2, .int .i64 j), (3, .func (.yield yl) #[] #[]), (9, .int .i64 ((l.size : Nat) : Int)), (25, .pointer pl), (26, .int .i64 i), (29, .int .i64 (if ((l.size : Nat) : Int) < j then ((l.size : Nat) : Int) else j)), (30, .func (.yield yl) #[] #[])] (hbn.ext st6.ext List.not_mem_nil) (fun _ hS => ⟨ld1b (hS) nagg_177 rfl, trivial⟩) ?_
     have hp1 := hp
     rw [c16_2, cond_false] at hp1
     have hpl := pfx1 hp1
     refine RS_e rfl rfl (ef_call (k := 118) (args := [.pointer pl, .int .i64 i, .int .i64 (if ((l.size : Nat) : Int) < j then ((l.size : Nat) : Int) else j), .func (.yield yl) #[] #[]]) (ihl hl hK hKx h1 h2 (by split <;> omega) (by split <;> omega) (by omega) hJ hJx hY hpl hj) body_118 (by kernel_rfl)) ?_
     rintro _ w7 ⟨_, rfl, h_⟩
     rcases h_ with ⟨rfl, hj⟩ | ⟨rfl, hj⟩
     ·
      clear hpl
      have st8 := St.init w7 []
      have hbn := hK _ _ hj _ _ hb0
      refine ⟨hbn.ext st8.ext List.not_mem_nil, ?_⟩
      refine RS_sg 5 [.p (.bool true), .p (.int .i64 i), .p (.int .i64 ((l.size : Nat) : Int)), .p (.bool (decide (i > ((l.size : Nat) : Int)))), .p (.bool (decide (i > ((l.size : Nat) : Int))))] [(0, a1), (1, .int .i64 i), (2, .int .i64 j), (3, .func (.yield yl) #[] #[]), (9, .int .i64 ((l.size : Nat) : Int)), (32, .bool true), (36, .bool (decide (i > ((l.size : Nat) : Int))))] (hbn.ext st8.ext List.not_mem_nil) (fun _ hS => trivial) ?_
      rcases Bool.eq_false_or_eq_true (decide (i > ((l.size : Nat) : Int))) with c36_9 | c36_9
      ·
       have c36_9p := of_decide_eq_true c36_9
       refine RS_at (m' := [(0, a1), (1, .int .i64 i), (2, .int .i64 j), (3, .func (.yield yl) #[] #[]), (9, .int .i64 ((l.size : Nat) : Int)), (32, .bool true), (36, .bool true)]) (by rw [c36_9]) ?_
       refine RS_sg 14 [.no, .no, .no, .p (.bool true), .p (.bool true), .no, .no, .no, .no, .no, .no, .no, .no, .no] [(0, a1), (1, .int .i64 i), (2, .int .i64 j), (3, .func (.yield yl) #[] #[]), (9, .int .i64 ((l.size : Nat) : Int)), (32, .bool true), (41, .bool true), (42, undef), (46, undef), (50, undef)] (hbn.ext st8.ext List.not_mem_nil) (fun _ hS => trivial) ?_
       refine RS_noe rfl (fun d h => by injection h with h; subst h; rfl) rfl (by decide) (hbn.ext st8.ext List.not_mem_nil) ?_
       refine RS_sg 17 [.p (.bool true), .p (.bool true), .p (.bool true), .p a1, .p a1, .p (.pointer (some ⟨gn, 13, none⟩)), .l 177 (.pointer (some ⟨gn, 13, none⟩)) (.pointer pr), .p (.int .i64 i), .p (.int .i64 ((l.size : Nat) : Int)), .p (.int .i64 (IntKind.i64.wrap (i - ((l.size : Nat) : Int)))), .p (.int .i64 (IntKind.i64.wrap ((IntKind.i64.wrap (i - ((l.size : Nat) : Int))) - 1))), .p (.int .i64 (if 0 > IntKind.i64.wrap ((IntKind.i64.wrap (i - ((l.size : Nat) : Int))) - 1) then 0 else IntKind.i64.wrap ((IntKind.i64.wrap (i - ((l.size : Nat) : Int))) - 1))), .p (.int .i64 j), .p (.int .i64 ((l.size : Nat) : Int)), .p (.int .i64 (IntKind.i64.wrap (j - ((l.size : Nat) : Int)))), .p (.int .i64 (IntKind.i64.wrap ((IntKind.i64.wrap (j - ((l.size : Nat) : Int))) - 1))), .p (.func (.yield yl) #[] #[])] [(54, .bool true), (58, .pointer pr), (63, .int .i64 (if 0 > IntKind.i64.wrap ((IntKind.i64.wrap (i - ((l.size : Nat) : Int))) - 1) then 0 else IntKind.i64.wrap ((IntKind.i64.wrap (i - ((l.size : Nat) : Int))) - 1))), (67, .int .i64 (IntKind.i64.wrap ((IntKind.i64.wrap (j - ((l.size : Nat) : Int))) - 1))), (68, .func (.yield yl) #[] #[])] (hbn.ext st8.ext List.not_mem_nil) (fun _ hS => ⟨ld1b (hS) nagg_177 rfl, trivial⟩) ?_
       have hp3 := hp1
       rw [c36_9, Bool.true_or, cond_true] at hp3
       try simp only [List.nil_append] at hp3
       have hpr := hp3
       try simp only [← List.append_assoc] at hpr
       refine RS_ge rfl rfl rfl (ef_call (k := 118) (args := [.pointer pr, .int .i64 (if 0 > IntKind.i64.wrap ((IntKind.i64.wrap (i - ((l.size : Nat) : Int))) - 1) then 0 else IntKind.i64.wrap ((IntKind.i64.wrap (i - ((l.size : Nat) : Int))) - 1)), .int .i64 (IntKind.i64.wrap ((IntKind.i64.wrap (j - ((l.size : Nat) : Int))) - 1)), .func (.yield yl) #[] #[]]) (ihr hr hK hKx (by rw [hw1]; split <;> omega) (by rw [hw1]; split <;> omega) (by rw [hw2]; omega) (by rw [hw2]; omega) (by omega) hJ hJx hY (by rw [hw1, hw2]; exact hpr) hj) body_118 (by kernel_rfl)) ?_
       rintro _ w10 ⟨_, rfl, h_⟩
       rcases h_ with ⟨rfl, hj⟩ | ⟨rfl, hj⟩
       ·
        have st11 := St.init w10 []
        have hbn := hK _ _ hj _ _ hb0
        refine ⟨hbn.ext st11.ext List.not_mem_nil, ?_⟩
        refine RS_sg 1 [.p (.bool true)] [(70, .bool true)] (hbn.ext st11.ext List.not_mem_nil) (fun _ hS => trivial) ?_
        refine RS_sgP 1 [.p (.bool true)] [(8, .bool true)] (fun _ => trivial) ?_
        refine RS_nil <| n_then <| W_ret <| ret_of (P := Tryd.prog) (fn := Tryd.f118) (m := [(8, .bool true)]) (w := w10) (res1 rfl (rv_tmp rfl)) ?_
        exact .inl ⟨rfl, by (try rw [c16_2]); (try rw [c36_9]); simpa [List.append_assoc, hw1, hw2, -ge_iff_le, -gt_iff_lt] using hj⟩
       ·
        have st12 := St.init w10 []
        have hbn := hKx _ hj _ _ hb0
        refine ⟨hbn.ext st12.ext List.not_mem_nil, ?_⟩
        refine RS_sg 1 [.p (.bool false)] [(70, .bool false)] (hbn.ext st12.ext List.not_mem_nil) (fun _ hS => trivial) ?_
        refine RS_sgP 1 [.p (.bool false)] [(8, .bool false)] (fun _ => trivial) ?_
        refine RS_nil <| n_then <| W_ret <| ret_of (P := Tryd.prog) (fn := Tryd.f118) (m := [(8, .bool false)]) (w := w10) (res1 rfl (rv_tmp rfl)) ?_
        exact .inr ⟨rfl, hj⟩
      ·
       have c36_9p := of_decide_eq_false c36_9
       refine RS_at (m' := [(0, a1), (1, .int .i64 i), (2, .int .i64 j), (3, .func (.yield yl) #[] #[]), (9, .int .i64 ((l.size : Nat) : Int)), (32, .bool true), (36, .bool false)]) (by rw [c36_9]) ?_
       refine RS_sg 5 [.p (.int .i64 ((l.size : Nat) : Int)), .p (.int .i64 j), .p (.bool (decide (((l.size : Nat) : Int) ≥ j))), .p (.bool (decide (((l.size : Nat) : Int) ≥ j))), .p (.bool (decide (((l.size : Nat) : Int) ≥ j)))] [(0, a1), (1, .int .i64 i), (2, .int .i64 j), (3, .func (.yield yl) #[] #[]), (9, .int .i64 ((l.size : Nat) : Int)), (32, .bool true), (41, .bool (decide (((l.size : Nat) : Int) ≥ j)))] (hbn.ext st8.ext List.not_mem_nil) (fun _ hS => trivial) ?_
       rcases Bool.eq_false_or_eq_true (decide (((l.size : Nat) : Int) ≥ j)) with c41_13 | c41_13
       ·
        have c41_13p := of_decide_eq_true c41_13
        refine RS_at (m' := [(0, a1), (1, .int .i64 i), (2, .int .i64 j), (3, .func (.yield yl) #[] #[]), (9, .int .i64 ((l.size : Nat) : Int)), (32, .bool true), (41, .bool true)]) (by rw [c41_13]) ?_
        refine RS_sg 9 [.no, .no, .no, .no, .no, .no, .no, .no, .no] [(0, a1), (1, .int .i64 i), (2, .int .i64 j), (3, .func (.yield yl) #[] #[]), (9, .int .i64 ((l.size : Nat) : Int)), (32, .bool true), (41, .bool true), (42, undef), (46, undef), (50, undef)] (hbn.ext st8.ext List.not_mem_nil) (fun _ hS => trivial) ?_
        refine RS_noe rfl (fun d h => by injection h with h; subst h; rfl) rfl (by decide) (hbn.ext st8.ext List.not_mem_nil) ?_
        refine RS_sg 17 [.p (.bool true), .p (.bool true), .p (.bool true), .p a1, .p a1, .p (.pointer (some ⟨gn, 13, none⟩)), .l 177 (.pointer (some ⟨gn, 13, none⟩)) (.pointer pr), .p (.int .i64 i), .p (.int .i64 ((l.size : Nat) : Int)), .p (.int .i64 (IntKind.i64.wrap (i - ((l.size : Nat) : Int)))), .p (.int .i64 (IntKind.i64.wrap ((IntKind.i64.wrap (i - ((l.size : Nat) : Int))) - 1))), .p (.int .i64 (if 0 > IntKind.i64.wrap ((IntKind.i64.wrap (i - ((l.size : Nat) : Int))) - 1) then 0 else IntKind.i64.wrap ((IntKind.i64.wrap (i - ((l.size : Nat) : Int))) - 1))), .p (.int .i64 j), .p (.int .i64 ((l.size : Nat) : Int)), .p (.int .i64 (IntKind.i64.wrap (j - ((l.size : Nat) : Int)))), .p (.int .i64 (IntKind.i64.wrap ((IntKind.i64.wrap (j - ((l.size : Nat) : Int))) - 1))), .p (.func (.yield yl) #[] #[])] [(54, .bool true), (58, .pointer pr), (63, .int .i64 (if 0 > IntKind.i64.wrap ((IntKind.i64.wrap (i - ((l.size : Nat) : Int))) - 1) then 0 else IntKind.i64.wrap ((IntKind.i64.wrap (i - ((l.size : Nat) : Int))) - 1))), (67, .int .i64 (IntKind.i64.wrap ((IntKind.i64.wrap (j - ((l.size : Nat) : Int))) - 1))), (68, .func (.yield yl) #[] #[])] (hbn.ext st8.ext List.not_mem_nil) (fun _ hS => ⟨ld1b (hS) nagg_177 rfl, trivial⟩) ?_
        have hp3 := hp1
        rw [c36_9, c41_13, Bool.or_true, cond_true] at hp3
        try simp only [List.nil_append] at hp3
        have hpr := hp3
        try simp only [← List.append_assoc] at hpr
        refine RS_ge rfl rfl rfl (ef_call (k := 118) (args := [.pointer pr, .int .i64 (if 0 > IntKind.i64.wrap ((IntKind.i64.wrap (i - ((l.size : Nat) : Int))) - 1) then 0 else IntKind.i64.wrap ((IntKind.i64.wrap (i - ((l.size : Nat) : Int))) - 1)), .int .i64 (IntKind.i64.wrap ((IntKind.i64.wrap (j - ((l.size : Nat) : Int))) - 1)), .func (.yield yl) #[] #[]]) (ihr hr hK hKx (by rw [hw1]; split <;> omega) (by rw [hw1]; split <;> omega) (by rw [hw2]; omega) (by rw [hw2]; omega) (by omega) hJ hJx hY (by rw [hw1, hw2]; exact hpr) hj) body_118 (by kernel_rfl)) ?_
        rintro _ w14 ⟨_, rfl, h_⟩
        rcases h_ with ⟨rfl, hj⟩ | ⟨rfl, hj⟩
        ·
         have st15 := St.init w14 []
         have hbn := hK _ _ hj _ _ hb0
         refine ⟨hbn.ext st15.ext List.not_mem_nil, ?_⟩
         refine RS_sg 1 [.p (.bool true)] [(70, .bool true)] (hbn.ext st15.ext List.not_mem_nil) (fun _ hS => trivial) ?_
         refine RS_sgP 1 [.p (.bool true)] [(8, .bool true)] (fun _ => trivial) ?_
         refine RS_nil <| n_then <| W_ret <| ret_of (P := Tryd.prog) (fn := Tryd.f118) (m := [(8, .bool true)]) (w := w14) (res1 rfl (rv_tmp rfl)) ?_
         exact .inl ⟨rfl, by (try rw [c16_2]); (try rw [c36_9]); (try rw [c41_13]); simpa [List.append_assoc, hw1, hw2, -ge_iff_le, -gt_iff_lt] using hj⟩
        ·
         have st16 := St.init w14 []
         have hbn := hKx _ hj _ _ hb0
         refine ⟨hbn.ext st16.ext List.not_mem_nil, ?_⟩
         refine RS_sg 1 [.p (.bool false)] [(70, .bool false)] (hbn.ext st16.ext List.not_mem_nil) (fun _ hS => trivial) ?_
         refine RS_sgP 1 [.p (.bool false)] [(8, .bool false)] (fun _ => trivial) ?_
         refine RS_nil <| n_then <| W_ret <| ret_of (P := Tryd.prog) (fn := Tryd.f118) (m := [(8, .bool false)]) (w := w14) (res1 rfl (rv_tmp rfl)) ?_
         exact .inr ⟨rfl, hj⟩
       ·
        have c41_13p := of_decide_eq_false c41_13
        refine RS_at (m' := [(0, a1), (1, .int .i64 i), (2, .int .i64 j), (3, .func (.yield yl) #[] #[]), (9, .int .i64 ((l.size : Nat) : Int)), (32, .bool true), (41, .bool false)]) (by rw [c41_13]) ?_
        let a17 : Value := .agg #[.string e.key, .int .i64 e.c, .int .i64 e.n, .string e.val, .bool e.dead]
        refine RS_sg 9 [.p (.func (.yield yl) #[] #[]), .p a1, .p a1, .p a1, .l 9 a1 (.string e.key), .p a1, .p a1, .p (.pointer (some ⟨gn, 1, none⟩)), .l 61 (.pointer (some ⟨gn, 1, none⟩)) a17] [(0, a1), (1, .int .i64 i), (2, .int .i64 j), (3, .func (.yield yl) #[] #[]), (9, .int .i64 ((l.size : Nat) : Int)), (32, .bool true), (41, .bool false), (42, .func (.yield yl) #[] #[]), (46, .string e.key), (50, a17)] (hbn.ext st8.ext List.not_mem_nil) (fun _ hS => ⟨ld1b (hS) nagg_9 rfl, ldNb (hS) agg_61 rfl rfl, trivial⟩) ?_
        have hp2 := hp1
        rw [c36_9, c41_13, Bool.or_self, cond_false] at hp2
        have hpy := pfx1 (a := _ ++ _) (by simpa only [List.append_assoc] using hp2)
        refine RS_gy rfl rfl rfl (ef_yield (hY _ e _ hj hpy) rfl rfl) ?_
        rintro _ w18 ⟨b_, rfl, hkn, hj⟩
        cases b_
        ·
         replace hj : Jx w18 := hj
         have st19 := St.init w18 []
         have hbn := hKx _ hj _ _ hb0
         refine ⟨hbn.ext st19.ext List.not_mem_nil, ?_⟩
         refine RS_sg 17 [.p (.bool false), .p (.bool false), .p (.bool false), .no, .no, .no, .no, .no, .no, .no, .no, .no, .no, .no, .no, .no, .no] [(54, .bool false), (58, undef), (63, undef), (67, undef), (68, undef)] (hbn.ext st19.ext List.not_mem_nil) (fun _ hS => trivial) ?_
         refine RS_noe rfl (fun d h => by injection h with h; subst h; rfl) rfl (by decide) (hbn.ext st19.ext List.not_mem_nil) ?_
         refine RS_sg 1 [.p (.bool false)] [(70, .bool false)] (hbn.ext st19.ext List.not_mem_nil) (fun _ hS => trivial) ?_
         refine RS_sgP 1 [.p (.bool false)] [(8, .bool false)] (fun _ => trivial) ?_
         refine RS_nil <| n_then <| W_ret <| ret_of (P := Tryd.prog) (fn := Tryd.f118) (m := [(8, .bool false)]) (w := w18) (res1 rfl (rv_tmp rfl)) ?_
         exact .inr ⟨rfl, hj⟩
        ·
         replace hj : J _ w18 := hj
         have st20 := St.init w18 []
         have hbn := hK _ _ hj _ _ hb0
         refine ⟨hbn.ext st20.ext List.not_mem_nil, ?_⟩
         refine RS_sg 17 [.p (.bool true), .p (.bool true), .p (.bool true), .p a1, .p a1, .p (.pointer (some ⟨gn, 13, none⟩)), .l 177 (.pointer (some ⟨gn, 13, none⟩)) (.pointer pr), .p (.int .i64 i), .p (.int .i64 ((l.size : Nat) : Int)), .p (.int .i64 (IntKind.i64.wrap (i - ((l.size : Nat) : Int)))), .p (.int .i64 (IntKind.i64.wrap ((IntKind.i64.wrap (i - ((l.size : Nat) : Int))) - 1))), .p (.int .i64 (if 0 > IntKind.i64.wrap ((IntKind.i64.wrap (i - ((l.size : Nat) : Int))) - 1) then 0 else IntKind.i64.wrap ((IntKind.i64.wrap (i - ((l.size : Nat) : Int))) - 1))), .p (.int .i64 j), .p (.int .i64 ((l.size : Nat) : Int)), .p (.int .i64 (IntKind.i64.wrap (j - ((l.size : Nat) : Int)))), .p (.int .i64 (IntKind.i64.wrap ((IntKind.i64.wrap (j - ((l.size : Nat) : Int))) - 1))), .p (.func (.yield yl) #[] #[])] [(54, .bool true), (58, .pointer pr), (63, .int .i64 (if 0 > IntKind.i64.wrap ((IntKind.i64.wrap (i - ((l.size : Nat) : Int))) - 1) then 0 else IntKind.i64.wrap ((IntKind.i64.wrap (i - ((l.size : Nat) : Int))) - 1))), (67, .int .i64 (IntKind.i64.wrap ((IntKind.i64.wrap (j - ((l.size : Nat) : Int))) - 1))), (68, .func (.yield yl) #[] #[])] (hbn.ext st20.ext List.not_mem_nil) (fun _ hS => ⟨ld1b (hS) nagg_177 rfl, trivial⟩) ?_
         have hp3 := hp1
         rw [c36_9, c41_13, Bool.or_self, cond_false] at hp3
         try simp only [List.nil_append] at hp3
         have hpr := hp3
         try simp only [← List.append_assoc] at hpr
         refine RS_ge rfl rfl rfl (ef_call (k := 118) (args := [.pointer pr, .int .i64 (if 0 > IntKind.i64.wrap ((IntKind.i64.wrap (i - ((l.size : Nat) : Int))) - 1) then 0 else IntKind.i64.wrap ((IntKind.i64.wrap (i - ((l.size : Nat) : Int))) - 1)), .int .i64 (IntKind.i64.wrap ((IntKind.i64.wrap (j - ((l.size : Nat) : Int))) - 1)), .func (.yield yl) #[] #[]]) (ihr hr hK hKx (by rw [hw1]; split <;> omega) (by rw [hw1]; split <;> omega) (by rw [hw2]; omega) (by rw [hw2]; omega) (by omega) hJ hJx hY (by rw [hw1, hw2]; exact hpr) hj) body_118 (by kernel_rfl)) ?_
         rintro _ w21 ⟨_, rfl, h_⟩
         rcases h_ with ⟨rfl, hj⟩ | ⟨rfl, hj⟩
         ·
          have st22 := St.init w21 []
          have hbn := hK _ _ hj _ _ hb0
          refine ⟨hbn.ext st22.ext List.not_mem_nil, ?_⟩
          refine RS_sg 1 [.p (.bool true)] [(70, .bool true)] (hbn.ext st22.ext List.not_mem_nil) (fun _ hS => trivial) ?_
          refine RS_sgP 1 [.p (.bool true)] [(8, .bool true)] (fun _ => trivial) ?_
          refine RS_nil <| n_then <| W_ret <| ret_of (P := Tryd.prog) (fn := Tryd.f118) (m := [(8, .bool true)]) (w := w21) (res1 rfl (rv_tmp rfl)) ?_
          exact .inl ⟨rfl, by (try rw [c16_2]); (try rw [c36_9]); (try rw [c41_13]); simpa [List.append_assoc, hw1, hw2, -ge_iff_le, -gt_iff_lt] using hj⟩
         ·
          have st23 := St.init w21 []
          have hbn := hKx _ hj _ _ hb0
          refine ⟨hbn.ext st23.ext List.not_mem_nil, ?_⟩
          refine RS_sg 1 [.p (.bool false)] [(70, .bool false)] (hbn.ext st23.ext List.not_mem_nil) (fun _ hS => trivial) ?_
          refine RS_sgP 1 [.p (.bool false)] [(8, .bool false)] (fun _ => trivial) ?_
          refine RS_nil <| n_then <| W_ret <| ret_of (P := Tryd.prog) (fn := Tryd.f118) (m := [(8, .bool false)]) (w := w21) (res1 rfl (rv_tmp rfl)) ?_
          exact .inr ⟨rfl, hj⟩
     ·
      have st24 := St.init w7 []
      have hbn := hKx _ hj _ _ hb0
      refine ⟨hbn.ext st24.ext List.not_mem_nil, ?_⟩
      refine RS_sg 19 [.p (.bool false), .no, .no, .no, .no, .no, .no, .no, .no, .no, .no, .no, .no, .no, .no, .no, .no, .no, .no] [(0, a1), (1, .int .i64 i), (2, .int .i64 j), (3, .func (.yield yl) #[] #[]), (9, .int .i64 ((l.size : Nat) : Int)), (32, .bool false), (41, undef), (42, undef), (46, undef), (50, undef)] (hbn.ext st24.ext List.not_mem_nil) (fun _ hS => trivial) ?_
      refine RS_nou rfl (fun d h => by injection h with h; subst h; rfl) rfl (hbn.ext st24.ext List.not_mem_nil) ?_
      refine RS_sg 17 [.no, .p (.bool false), .p (.bool false), .no, .no, .no, .no, .no, .no, .no, .no, .no, .no, .no, .no, .no, .no] [(54, .bool false), (58, undef), (63, undef), (67, undef), (68, undef)] (hbn.ext st24.ext List.not_mem_nil) (fun _ hS => trivial) ?_
      refine RS_noe rfl (fun d h => by injection h with h; subst h; rfl) rfl (by decide) (hbn.ext st24.ext List.not_mem_nil) ?_
      refine RS_sg 1 [.p (.bool false)] [(70, .bool false)] (hbn.ext st24.ext List.not_mem_nil) (fun _ hS => trivial) ?_
      refine RS_sgP 1 [.p (.bool false)] [(8, .bool false)] (fun _ => trivial) ?_
      refine RS_nil <| n_then <| W_ret <| ret_of (P := Tryd.prog) (fn := Tryd.f118) (m := [(8, .bool false)]) (w := w7) (res1 rfl (rv_tmp rfl)) ?_
      exact .inr ⟨rfl, hj⟩
end Go.Proofs.YtcopemgkjbaaeaaDoor
namespace Go.Proofs.YtcopemgkjbaaeaaDoor
set_option linter.all false
open Go.RowKit
def rowsV (g7 g4 g5 : Nat) : Value := .func (.func 117) #[] #[.pointer (some ⟨g7, 0, none⟩), .pointer (some ⟨g4, 0, none⟩), .pointer (some ⟨g5, 0, none⟩)]
structure RowsNd (W0 : World) (g7 g4 g5 : Nat) (p : Option Addr) (i j : Int) (W : World) : Prop where
  kept : NodesKept W0 W
  b7 : Blk W g7 177 #[.pointer p]
  b4 : Blk W g4 3 #[.int .i64 i]
  b5 : Blk W g5 3 #[.int .i64 j]
theorem RowsNd.of_ext {W0 W W' : World} {g7 g4 g5 : Nat} {p : Option Addr} {i j : Int} (h : RowsNd W0 g7 g4 g5 p i j W) (hx : Ext [] W W') : RowsNd W0 g7 g4 g5 p i j W' :=
  ⟨h.kept.trans (NodesKept.of_ext hx (NoNode.nil _)), h.b7.ext hx (by simp), h.b4.ext hx (by simp), h.b5.ext hx (by simp)⟩
theorem RowsNd.of_extX {X : List Nat} {W0 W W' : World} {g7 g4 g5 : Nat} {p : Option Addr} {i j : Int} (h : RowsNd W0 g7 g4 g5 p i j W) (hx : Ext X W W') (hn : NoNode W X) (h7 : g7 ∉ X) (h4 : g4 ∉ X) (h5 : g5 ∉ X) : RowsNd W0 g7 g4 g5 p i j W' :=
  ⟨h.kept.trans (NodesKept.of_ext hx hn), h.b7.ext hx h7, h.b4.ext hx h4, h.b5.ext hx h5⟩
theorem spanIt_cr {w : World} {bt bm : Nat} {j0 : Int} {p : Option Addr} {t : T} (i j : Int) (hT : Tr w bt bm j0 p) (ht : IsT w p t) :
    CR Tryd.prog 70 [.pointer (some ⟨bt, 0, none⟩), .int .i64 i, .int .i64 j] w fun v w' => ∃ g7 g4 g5, v = rowsV g7 g4 g5 ∧ RowsNd w g7 g4 g5 p (if 0 > i then 0 else i) (if ((t.size : Nat) : Int) < j then ((t.size : Nat) : Int) else j) w' ∧
      w.heap.size ≤ g7 ∧ w.heap.size ≤ g4 ∧ w.heap.size ≤ g5 ∧ Ext [] w w' := by
  have st := St.init w []
  have htb := hT.t
  refine CR_enter Tryd.func70 rfl Tryd.ntmps70 rfl ?_
  refine W_seq <| W_region <| RP_e rfl (ef_box st rfl rfl) ?_
  rintro _ w1 ⟨g4, rfl, hg4, hg4', st2, hx3⟩
  replace st2 : St [] w w1 [(g4, 3, [.int .i64 i])] := st2
  refine RP_e rfl (ef_box st2 rfl rfl) ?_
  rintro _ w4 ⟨g5, rfl, hg5, hg5', st5, hx6⟩
  replace st5 : St [] w w4 [(g5, 3, [.int .i64 j]), (g4, 3, [.int .i64 i])] := st5
  let a7 : Value := .pointer (some ⟨bt, 0, none⟩)
  let a8 : Value := .pointer (some ⟨g4, 0, none⟩)
  let a9 : Value := .pointer (some ⟨g5, 0, none⟩)
  refine RP_sg 1 [.p .nilFunc] [(0, a7), (4, a8), (5, a9)] trivial ?_
  refine RP_nil <| n_then <| W_seq <| W_region <| RP_sg 4 [.p a7, .p a7, .p (.pointer (some ⟨bt, 4, none⟩)), .l 177 (.pointer (some ⟨bt, 4, none⟩)) (.pointer p)] [(4, a8), (5, a9), (11, .pointer p)] ⟨ld1b (htb.ext st5.ext List.not_mem_nil) nagg_177 rfl, trivial⟩ ?_
  refine RP_e rfl (ef_alloc st5 zero_177 rfl) ?_
  rintro _ w10 ⟨g7, rfl, hg7, hg7', st11, hx12⟩
  replace st11 : St [] w w10 [(g7, 177, [.pointer none]), (g5, 3, [.int .i64 j]), (g4, 3, [.int .i64 i])] := st11
  refine RP_e rfl (ef_store st11 rfl rfl rfl size_177 0 rfl rfl rfl rfl (.inr hg7)) ?_
  rintro _ w13 ⟨rfl, st14, hx15⟩
  replace st14 : St [] w w13 [(g7, 177, [.pointer p]), (g5, 3, [.int .i64 j]), (g4, 3, [.int .i64 i])] := st14
  let a16 : Value := .pointer (some ⟨g7, 0, none⟩)
  refine RP_pk [(4, a8), (5, a9), (7, a16)] ?_
  refine RP_nil <| n_then <| W_seq <| W_regionS ⟨(fun w' => Blk w' g7 177 [.pointer p].toArray ∧ Blk w' g5 3 [.int .i64 j].toArray), (fun w' => Blk w' g4 3 [.int .i64 i].toArray)⟩ (.cons 4 0 (.cons 4 1 (.cons 1 2 (.cons 1 3 (.cons 6 4 (.cons 1 5 (.cons 2 6 (.cons 3 7 .nil)))))))) 8 (by kernel_rfl) (by kernel_rfl) ?_
  have st17 := st14.drew
  refine RS_sg4 2 [.l 3 a8 (.int .i64 i), .p (.int .i64 (if 0 > i then 0 else i))] [(4, a8), (5, a9), (7, a16), (13, .int .i64 (if 0 > i then 0 else i))] ⟨⟨st17.get 0 rfl, st17.get 1 rfl⟩, st17.get 2 rfl⟩ (fun _ hS => ⟨ld1b (hS.2) nagg_3 rfl, trivial⟩) ?_
  refine RS_sg 2 [.l 3 a9 (.int .i64 j), .l 177 a16 (.pointer p)] [(4, a8), (5, a9), (7, a16), (13, .int .i64 (if 0 > i then 0 else i)), (14, .int .i64 j), (15, .pointer p)] (⟨st17.get 0 rfl, st17.get 1 rfl⟩) (fun _ hS => ⟨ld1b (hS.2) nagg_3 rfl, ld1b (hS.1) nagg_177 rfl, trivial⟩) ?_
  refine RS_e6 rfl rfl (ef_call (k := 116) (args := [.pointer p]) (many_cr (ht.to st17.ext (NoNode.nil _))) body_116 (by kernel_rfl)) ?_
  rintro _ _ ⟨_, rfl, rfl, rfl⟩
  refine ⟨⟨⟨st17.get 0 rfl, st17.get 1 rfl⟩, st17.get 2 rfl⟩, ?_⟩
  refine RS_sg 1 [.p (.int .i64 (if ((t.size : Nat) : Int) < j then ((t.size : Nat) : Int) else j))] [(4, a8), (5, a9), (7, a16), (13, .int .i64 (if 0 > i then 0 else i)), (17, .int .i64 (if ((t.size : Nat) : Int) < j then ((t.size : Nat) : Int) else j))] (⟨st17.get 0 rfl, st17.get 1 rfl⟩) (fun _ hS => trivial) ?_
  refine RS_e rfl rfl (ef_store st17 rfl rfl rfl size_3 2 rfl rfl rfl rfl (.inr hg4)) ?_
  rintro _ w21 ⟨rfl, st22, hx23⟩
  replace st22 : St [] w w21 [(g7, 177, [.pointer p]), (g5, 3, [.int .i64 j]), (g4, 3, [.int .i64 (if 0 > i then 0 else i)])] := st22
  refine ⟨⟨st22.get 0 rfl, st22.get 1 rfl⟩, ?_⟩
  refine RS_f rfl rfl (ef_store st22 rfl rfl rfl size_3 1 rfl rfl rfl rfl (.inr hg5)) ?_
  rintro _ w24 ⟨rfl, st25, hx26⟩
  replace st25 : St [] w w24 [(g7, 177, [.pointer p]), (g5, 3, [.int .i64 (if ((t.size : Nat) : Int) < j then ((t.size : Nat) : Int) else j)]), (g4, 3, [.int .i64 (if 0 > i then 0 else i)])] := st25
  refine RS_pk [(4, a8), (5, a9), (7, a16)] ?_
  refine RS_nil <| n_then <| W_seq <| W_region ?_
  let a27 : Value := .func (.func 117) #[] #[a16, a8, a9]
  refine RP_sg 2 [.p a27, .p a27] [(6, a27)] trivial ?_
  refine RP_nil <| n_then <| W_ret <| ret_of (P := Tryd.prog) (fn := Tryd.f70) (m := [(6, .func (.func 117) #[] #[.pointer (some ⟨g7, 0, none⟩), .pointer (some ⟨g4, 0, none⟩), .pointer (some ⟨g5, 0, none⟩)])]) (w := w24) (res1 rfl (rv_tmp rfl)) ?_
  exact ⟨g7, g4, g5, rfl, ⟨NodesKept.of_ext st25.ext (NoNode.nil _), st25.get 0 rfl, st25.get 2 rfl, st25.get 1 rfl⟩, hg7, hg4, hg5, st25.ext⟩
theorem rows_it {W0 : World} {g7 g4 g5 : Nat} {p : Option Addr} {i j : Int} {t : T} (hT : IsT W0 p t) (h1 : 0 ≤ i) (h2 : i ≤ 1000000000) (h3 : -1000000000 ≤ j) (h4 : j ≤ 1000000000) (h5 : t.size ≤ 100000) :
    Iter Tryd.prog 117 [.pointer (some ⟨g7, 0, none⟩), .pointer (some ⟨g4, 0, none⟩), .pointer (some ⟨g5, 0, none⟩)] (fun e : Ent => [.string e.key, e.v]) (t.rows i j) (RowsNd W0 g7 g4 g5 p i j) := by
  intro l J Jx w hl hJ hJx hNd hNdx hY hj
  have st := St.init w []
  have hb7 := (hNd _ _ hj).b7
  have hb4 := (hNd _ _ hj).b4
  have hb5 := (hNd _ _ hj).b5
  refine CR_enter Tryd.func117 rfl Tryd.ntmps117 rfl ?_
  refine W_region <| RP_sg 4 [.l 177 (.pointer (some ⟨g7, 0, none⟩)) (.pointer p), .l 3 (.pointer (some ⟨g4, 0, none⟩)) (.int .i64 i), .l 3 (.pointer (some ⟨g5, 0, none⟩)) (.int .i64 j), .p (.func (.yield l) #[] #[])] [(5, .pointer p), (6, .int .i64 i), (7, .int .i64 j), (8, .func (.yield l) #[] #[])] ⟨ld1b (hb7.ext st.ext List.not_mem_nil) nagg_177 rfl, ld1b (hb4.ext st.ext List.not_mem_nil) nagg_3 rfl, ld1b (hb5.ext st.ext List.not_mem_nil) nagg_3 rfl, trivial⟩ ?_
  refine RP_e rfl (ef_call (k := 118) (args := [.pointer p, .int .i64 i, .int .i64 j, .func (.yield l) #[] #[]]) (walk_it t (B := w.heap.size) (pre0 := []) hT (fun pre W h => (hNd pre W h).kept) (fun W h => (hNdx W h).kept) h1 h2 h3 h4 h5 hJ hJx hY (List.prefix_refl _) hj) body_118 (by kernel_rfl)) ?_
  rintro _ w1 ⟨_, rfl, h_⟩
  rcases h_ with ⟨rfl, hj⟩ | ⟨rfl, hj⟩
  ·
   have st2 := St.init w1 []
   refine RP_pk [] ?_
   refine RP_nil <| end_of (P := Tryd.prog) (fn := Tryd.f117) (m := []) (w := w1) (res0 rfl ) ?_
   exact .inl (by simpa using hj)
  ·
   have st3 := St.init w1 []
   refine RP_pk [] ?_
   refine RP_nil <| end_of (P := Tryd.prog) (fn := Tryd.f117) (m := []) (w := w1) (res0 rfl ) ?_
   exact .inr hj
structure AllNd (W0 : World) (ga g7 g4 g5 : Nat) (p : Option Addr) (i j : Int) (W : World) : Prop where
  rows : RowsNd W0 g7 g4 g5 p i j W
  ba : Blk W ga 136 #[rowsV g7 g4 g5]
theorem AllNd.of_ext {W0 W W' : World} {ga g7 g4 g5 : Nat} {p : Option Addr} {i j : Int} (h : AllNd W0 ga g7 g4 g5 p i j W) (hx : Ext [] W W') : AllNd W0 ga g7 g4 g5 p i j W' := ⟨h.rows.of_ext hx, h.ba.ext hx (by simp)⟩
theorem NodesKept.grow {B : Nat} {W0 W W' : World} (h : NodesKept W0 W) (hg : Grow B W W') : NodesKept W0 W' := fun g cs hb => (h g cs hb).grow hg
theorem AllNd.grow {B : Nat} {W0 W W' : World} {ga g7 g4 g5 : Nat} {p : Option Addr} {i j : Int} (h : AllNd W0 ga g7 g4 g5 p i j W) (hg : Grow B W W') : AllNd W0 ga g7 g4 g5 p i j W' :=
  ⟨⟨h.rows.kept.grow hg, h.rows.b7.grow hg, h.rows.b4.grow hg, h.rows.b5.grow hg⟩, h.ba.grow hg⟩
def allT (t : TypeId) : Bool := t != 136 && (t != 177 && (t != 3 && t != 181))
theorem AllNd.of_ext1 {W0 W W' : World} {ga g7 g4 g5 g : Nat} {p : Option Addr} {i j : Int} {t : TypeId} {cs : Array Value} (h : AllNd W0 ga g7 g4 g5 p i j W) (hx : Ext [g] W W') (hb : Blk W g t cs) (ht : allT t = true) : AllNd W0 ga g7 g4 g5 p i j W' := by
  simp only [allT, Bool.and_eq_true, bne_iff_ne, ne_eq] at ht
  exact ⟨h.rows.of_extX hx (NoNode.one hb ht.2.2.2) (by simpa using (hb.ne_ h.rows.b7 ht.2.1).symm) (by simpa using (hb.ne_ h.rows.b4 ht.2.2.1).symm) (by simpa using (hb.ne_ h.rows.b5 ht.2.2.1).symm), h.ba.ext hx (by simpa using (hb.ne_ h.ba ht.1).symm)⟩
theorem AllNd.of_own {W0 W W' : World} {ga g7 g4 g5 base size k : Nat} {e : TypeId} {v : Value} {xs : List Value} {p : Option Addr} {i j : Int} (h : AllNd W0 ga g7 g4 g5 p i j W) (hx : Ext (ownB v) W W') (ho : W.ownsRow base e size v k xs) (ht : allT e = true) : AllNd W0 ga g7 g4 g5 p i j W' := by
  simp only [allT, Bool.and_eq_true, bne_iff_ne, ne_eq] at ht
  exact ⟨h.rows.of_extX hx (NoNode.own ho ht.2.2.2) (ownsRow.not_blk ho h.rows.b7 ht.2.1) (ownsRow.not_blk ho h.rows.b4 ht.2.2.1) (ownsRow.not_blk ho h.rows.b5 ht.2.2.1), h.ba.ext hx (ownsRow.not_blk ho h.ba ht.1)⟩
theorem all_it {W0 : World} {ga g7 g4 g5 : Nat} {p : Option Addr} {i j : Int} {t : T} (hT : IsT W0 p t) (h1 : 0 ≤ i) (h2 : i ≤ 1000000000) (h3 : -1000000000 ≤ j) (h4 : j ≤ 1000000000) (h5 : t.size ≤ 100000) :
    Iter Tryd.prog 71 [.pointer (some ⟨ga, 0, none⟩)] (fun e : Ent => [e.v]) (t.rows i j) (AllNd W0 ga g7 g4 g5 p i j) := by
  intro l J Jx w hl hJ hJx hNd hNdx hY hj
  have st := St.init w []
  have hba := (hNd _ _ hj).ba
  refine CR_enter Tryd.func71 rfl Tryd.ntmps71 rfl ?_
  refine W_seq <| W_region <| RP_e rfl (ef_box st rfl rfl) ?_
  rintro _ w1 ⟨g2, rfl, hg2, hg2', st2, hx3⟩
  replace st2 : St [] w w1 [(g2, 114, [.func (.yield l) #[] #[]])] := st2
  let a4 : Value := .pointer (some ⟨ga, 0, none⟩)
  let a5 : Value := .pointer (some ⟨g2, 0, none⟩)
  refine RP_pk [(1, a4), (2, a5)] ?_
  refine RP_nil <| n_then <| W_seq <| W_region ?_
  let a6 : Value := .func (.func 117) #[] #[.pointer (some ⟨g7, 0, none⟩), .pointer (some ⟨g4, 0, none⟩), .pointer (some ⟨g5, 0, none⟩)]
  refine RP_sg 1 [.l 136 a4 a6] [(2, a5), (5, a6)] ⟨ld1b (hba.ext st2.ext List.not_mem_nil) nagg_136 rfl, trivial⟩ ?_
  refine RP_nil <| n_then <| W_block ?_
  have hle0 := st2.ext.size
  have hBl7 := st2.ext.size
  refine W_range (encs := (fun e : Ent => [.string e.key, e.v])) (xs := (t.rows i j)) (rows_it hT h1 h2 h3 h4 h5) rfl body_117 (fun _ => rfl) (by kernel_rfl) (fun (pre : List Ent) (w_ : World) => J pre w_ ∧ Blk w_ g2 114 #[.func (.yield l) #[] #[]]) (fun c_ w_ => c_ = Code.ret ∧ Jx w_) ?_ ?_ ?_ ?_ ?_ ?_ ?_ ?_
  · rintro pre A_ B_ ⟨hj, hb2⟩ hg_
    exact ⟨(hJ _) _ _ hj (hg_.mono hBl7), hb2.grow hg_⟩
  · exact fun c_ A_ B_ h_ hg_ => ⟨h_.1, hJx _ _ h_.2 (hg_.mono hBl7)⟩
  · rintro pre w_ ⟨hj, hb2⟩
    exact (hNd _ _ hj).rows
  · exact fun c_ w_ h_ => (hNdx _ h_.2).rows
  · exact ⟨((hJ _) _ _ hj (Grow.of_ext st2.ext)), st2.get 0 rfl⟩
  · -- a round
   rintro l_ pre e w8 ⟨hj, hb2⟩ hpre_ hle_
   have st9 := St.init w8 []
   have hkn := KeepsN.refl (w1).heap.size w8
   refine W_pick [2, 6, 7] (by kernel_rfl : pick _ _ = some [(2, a5), (6, .string e.key), (7, .agg #[.string e.key, .int .i64 e.c, .int .i64 e.n, .string e.val, .bool e.dead])]) ?_
   refine W_region <| RP_e rfl (ef_alloc st9 zero_61 rfl) ?_
   rintro _ w10 ⟨g4e, rfl, hg4e, hg4e', st11, hx12⟩
   replace st11 : St [] w8 w10 [(g4e, 61, [.string (⟨#[]⟩ : ByteArray), .int .i64 0, .int .i64 0, .string (⟨#[]⟩ : ByteArray), .bool false])] := st11
   replace hb2 := Blk.ext hb2 hx12 (by simp)
   replace hkn := hkn.ext0 hx12
   refine RP_e rfl (ef_store st11 rfl rfl rfl size_61 0 rfl rfl rfl rfl (.inr hg4e)) ?_
   rintro _ w13 ⟨rfl, st14, hx15⟩
   replace st14 : St [] w8 w13 [(g4e, 61, [.string e.key, .int .i64 e.c, .int .i64 e.n, .string e.val, .bool e.dead])] := st14
   replace hb2 := Blk.ext hb2 hx15 (by simpa using (Blk.ne_ hb2 (st11.get 0 rfl) (by decide)))
   replace hkn := hkn.ext1 hx15 (st11.get 0 rfl) rfl
   let a16 : Value := .pointer (some ⟨g4e, 0, none⟩)
   refine RP_pk [(2, a5), (4, a16)] ?_
   refine RP_nil <| assign_end hkn (fun w17 hg18 => ?_)
   have st19 := (St.init w17 []).add ((st14.get 0 rfl).grow hg18) (by simp)
   replace hj := (hJ _) _ _ ((hJ _) _ _ hj (Grow.of_ext st14.ext)) (hg18.mono hBl7)
   replace hb2 := hb2.grow hg18
   replace hkn := KeepsN.refl (w1).heap.size w17
   refine W_block <| W_seq <| W_region ?_
   let a20 : Value := .agg #[.string e.key, .int .i64 e.c, .int .i64 e.n, .string e.val, .bool e.dead]
   refine RP_sg 2 [.l 114 a5 (.func (.yield l) #[] #[]), .l 61 a16 a20] [(8, .func (.yield l) #[] #[]), (9, a20)] ⟨ld1b (hb2) nagg_114 rfl, ldN st19 agg_61 0 rfl rfl rfl, trivial⟩ ?_
   refine RP_y rfl (ef_yield (hY _ e _ ((hJ _) _ _ hj (Grow.of_ext st19.ext)) hpre_) rfl rfl) ?_
   rintro _ w21 ⟨b_, rfl, hkn2, hj⟩
   cases b_
   ·
    replace hj : Jx w21 := hj
    have st22 := St.init w21 []
    replace hkn := hkn.trans (hkn2.mono hle0)
    refine RP_sg 1 [.p (.bool true)] [(11, .bool true)] trivial ?_
    refine RP_nil <| n_then <| W_true rfl ?_
    refine W_ret <| r_block ?_
    exact round_ret hkn (⟨rfl, (hJx _ _ hj (Grow.of_ext st22.ext))⟩)
   ·
    replace hj : J _ w21 := hj
    have st23 := St.init w21 []
    replace hb2 := hkn2.blk hb2 (by decide) hg2
    replace hkn := hkn.trans (hkn2.mono hle0)
    refine RP_sg 1 [.p (.bool false)] [(11, .bool false)] trivial ?_
    refine RP_nil <| n_then <| W_false rfl ?_
    refine W_skip <| n_block ?_
    exact round_end hkn ⟨((hJ _) _ _ hj (Grow.of_ext st23.ext)), hb2⟩
  · -- all have come
   rintro D24 w25 hD24w ⟨hj, hb2⟩ hD24
   have st26 := St.init w25 []
   replace hD24w := Nat.le_trans hBl7 hD24w
   replace hD24 : IsDef w25 D24 := hD24
   refine n_block <| end_ofM (P := Tryd.prog) (fn := Tryd.f71) (m := [(1000000, .pointer (some ⟨D24, 0, none⟩)), (2, .pointer (some ⟨g2, 0, none⟩)), (5, .func (.func 117) #[] #[.pointer (some ⟨g7, 0, none⟩), .pointer (some ⟨g4, 0, none⟩), .pointer (some ⟨g5, 0, none⟩)])]) (w := w25) (D := D24) rfl hD24 (fun w27 hg28 => ?_)
   have st29 := St.init w27 []
   replace hj := (hJ _) _ _ ((hJ _) _ _ hj (Grow.of_ext st26.ext)) (hg28.mono hD24w)
   replace hb2 := hb2.grow hg28
   refine ⟨_, res0 rfl , ?_⟩
   exact .inl ((hJ _) _ _ hj (Grow.of_ext st29.ext))
  · -- it was left
   rintro c_ D30 w31 hD30w ⟨rfl, hj⟩ hD30
   replace hD30w := Nat.le_trans hBl7 hD30w
   replace hD30 : IsDef w31 D30 := hD30
   have st32 := St.init w31 []
   refine W_ret <| r_block ?_
   refine ret_ofM (P := Tryd.prog) (fn := Tryd.f71) (m := [(1000000, .pointer (some ⟨D30, 0, none⟩)), (2, .pointer (some ⟨g2, 0, none⟩)), (5, .func (.func 117) #[] #[.pointer (some ⟨g7, 0, none⟩), .pointer (some ⟨g4, 0, none⟩), .pointer (some ⟨g5, 0, none⟩)])]) (w := w31) (D := D30) rfl hD30 (fun w33 hg34 => ?_)
   have st35 := St.init w33 []
   replace hj := hJx _ _ (hJx _ _ hj (Grow.of_ext st32.ext)) (hg34.mono hD30w)
   refine ⟨_, res0 rfl , ?_⟩
   exact .inr (hJx _ _ hj (Grow.of_ext st35.ext))
theorem storeAll_cr {w : World} {gs bm bt : Nat} {p : Option Addr} {node clock j : Int} {t : T} (r : Rng) (hS : Sto w gs bm bt p node clock j t) (hs : t.size ≤ 10000) :
    CR Tryd.prog 27 [.pointer (some ⟨gs, 0, none⟩), r.v] w fun v w' => ∃ u, v = .tuple #[u, .int .i64 r.check] ∧ Ext [] w w' ∧ (r.check ≠ 0 → u = .nilFunc) ∧
      (r.check = 0 → ∃ ga g7 g4 g5, u = .func (.func 71) #[] #[.pointer (some ⟨ga, 0, none⟩)] ∧ w.heap.size ≤ ga ∧ w.heap.size ≤ g7 ∧ w.heap.size ≤ g4 ∧ w.heap.size ≤ g5 ∧ AllNd w ga g7 g4 g5 p ((t.rank r.lo : Nat) : Int) ((t.rankHi r : Nat) : Int) w') := by
  have st := St.init w []
  have hb := hS.blk
  have hTr := hS.tr
  have hT := hS.ist
  have hrl := T.rank_le r.lo t
  have hrh := T.rankHi_le t r
  refine CR_enter Tryd.func27 rfl Tryd.ntmps27 rfl ?_
  refine W_seq <| W_region <| RP_e rfl (ef_box st rfl rfl) ?_
  rintro _ w1 ⟨g4, rfl, hg4, hg4', st2, hx3⟩
  replace st2 : St [] w w1 [(g4, 24, [.string r.lo, .string r.hi, .bool r.op])] := st2
  replace hTr := hTr.ext hx3 (by simp)
  replace hT := hT.to hx3 (NoNode.nil _)
  let a5 : Value := .pointer (some ⟨gs, 0, none⟩)
  let a6 : Value := .pointer (some ⟨g4, 0, none⟩)
  refine RP_sg 2 [.p .nilFunc, .p (.int .i64 0)] [(0, a5), (3, a6)] trivial ?_
  refine RP_nil <| n_then <| W_seq <| W_seq <| W_region ?_
  let a7 : Value := .agg #[.string r.lo, .string r.hi, .bool r.op]
  refine RP_sg 1 [.l 24 a6 a7] [(0, a5), (3, a6), (8, a7)] ⟨ldN st2 agg_24 0 rfl rfl rfl, trivial⟩ ?_
  refine RP_e rfl (ef_call (k := 29) (args := [a7]) (spanCheck_cr r _) body_29 (by kernel_rfl)) ?_
  rintro _ w8 ⟨_, rfl, rfl, hx10⟩
  have st9 := st2.call0 hx10
  replace hTr := hTr.ext hx10 (by simp)
  replace hT := hT.to hx10 (NoNode.nil _)
  refine RP_sg 1 [.p (.int .i64 r.check)] [(0, a5), (3, a6), (6, .int .i64 r.check)] trivial ?_
  refine RP_nil <| n_then <| W_seq <| W_region <| RP_sg 2 [.p (.int .i64 r.check), .p (.bool (r.check != 0))] [(0, a5), (3, a6), (6, .int .i64 r.check), (11, .bool (r.check != 0))] trivial ?_
  refine RP_nil <| n_then <| W_cond rfl (fun c11_11 => ?_) (fun c11_11 => ?_)
  ·
   refine W_seq <| W_region <| RP_sg 3 [.p (.int .i64 r.check), .p .nilFunc, .p (.int .i64 r.check)] [(4, .nilFunc), (5, .int .i64 r.check)] trivial ?_
   refine RP_nil <| n_then <| W_ret <| r_then ?_
   have hz : r.check ≠ 0 := by simpa using c11_11
   refine ret_of (P := Tryd.prog) (fn := Tryd.f27) (m := [(4, .nilFunc), (5, .int .i64 r.check)]) (w := w8) (res2 rfl (rv_tmp rfl) (rv_tmp rfl)) ?_
   exact ⟨_, rfl, st9.ext, fun _ => rfl, fun h => absurd h hz⟩
  ·
   refine W_skip <| n_then <| W_seq <| W_regionS ⟨(fun w' => Blk w' g4 24 [.string r.lo, .string r.hi, .bool r.op].toArray ∧ Blk w' gs 129 [.int .i64 node, .int .i64 clock, .pointer (some ⟨bm, 0, none⟩), .pointer (some ⟨bt, 0, none⟩)].toArray), (fun _ => True)⟩ (.cons 1 0 (.cons 1 1 (.cons 1 2 (.cons 1 3 (.cons 1 4 (.cons 1 5 (.fork (.cons 2 6 (.cons 1 7 (.cons 1 8 (.fork (.cons 2 9 (.cons 2 10 (.cons 2 11 .nil))) (.cons 2 10 (.cons 2 9 (.cons 2 11 .nil))))))) (.cons 2 10 (.cons 2 6 (.cons 1 7 (.cons 1 8 (.cons 2 9 (.cons 2 11 .nil))))))))))))) 12 (by kernel_rfl) (by kernel_rfl) ?_
   have st12 := st9.drew
   replace hTr := hTr.drew
   replace hT := hT.drew
   let a13 : Value := .pointer (some ⟨bt, 0, none⟩)
   refine RS_sg 6 [.p a5, .p a5, .p (.pointer (some ⟨gs, 3, none⟩)), .l 127 (.pointer (some ⟨gs, 3, none⟩)) a13, .p a5, .l 24 a6 a7] [(16, a13), (17, a5), (18, a7)] (⟨st12.get 0 rfl, hb.ext st12.ext List.not_mem_nil⟩) (fun _ hS => ⟨ld1b (hS.2) nagg_127 rfl, ldNb (hS.1) agg_24 rfl rfl, trivial⟩) ?_
   refine RS_fork ?_ ?_
   ·
    refine RS_e rfl rfl (ef_call (k := 69) (args := [a5, a7]) (storeRank_cr (p := p) (j := j) r ⟨hb.ext st12.ext (by simp), hTr, hT⟩ hs) body_69 (by kernel_rfl)) ?_
    rintro _ w14 ⟨_, rfl, rfl, hx16⟩
    have st15 := st12.call0 hx16
    replace hTr := hTr.ext hx16 (by simp)
    replace hT := hT.to hx16 (NoNode.nil _)
    refine ⟨⟨st15.get 0 rfl, hb.ext st15.ext List.not_mem_nil⟩, ?_⟩
    refine RS_sg 2 [.p (.int .i64 ((t.rank r.lo : Nat) : Int)), .p (.int .i64 ((t.rankHi r : Nat) : Int))] [(16, a13), (20, .int .i64 ((t.rank r.lo : Nat) : Int)), (21, .int .i64 ((t.rankHi r : Nat) : Int))] (⟨st15.get 0 rfl, hb.ext st15.ext List.not_mem_nil⟩) (fun _ hS => trivial) ?_
    refine RS_fork ?_ ?_
    ·
     refine RS_e rfl rfl (ef_call (k := 70) (args := [a13, .int .i64 ((t.rank r.lo : Nat) : Int), .int .i64 ((t.rankHi r : Nat) : Int)]) (spanIt_cr (p := p) (j0 := j) ((t.rank r.lo : Nat) : Int) ((t.rankHi r : Nat) : Int) hTr hT) body_70 (by kernel_rfl)) ?_
     rintro _ w17 ⟨_, rfl, b7, b4, b5, rfl, hnd, hb7, hb4, hb5, hx19⟩
     have st18 := st15.call0 hx19
     replace hTr := hTr.ext hx19 (by simp)
     replace hT := hT.to hx19 (NoNode.nil _)
     rw [if_neg (by omega), if_neg (by omega)] at hnd
     replace hnd : RowsNd w b7 b4 b5 p _ _ _ := ⟨(NodesKept.of_ext st15.ext (NoNode.nil _)).trans hnd.kept, hnd.b7, hnd.b4, hnd.b5⟩
     have hsz := st15.ext.size
     replace hb7 := Nat.le_trans hsz hb7
     replace hb4 := Nat.le_trans hsz hb4
     replace hb5 := Nat.le_trans hsz hb5
     refine ⟨⟨st18.get 0 rfl, hb.ext st18.ext List.not_mem_nil⟩, ?_⟩
     refine RS_e rfl rfl (ef_alloc st18 zero_136 rfl) ?_
     rintro _ w20 ⟨ga, rfl, hga, hga', st21, hx22⟩
     replace st21 : St [] w w20 [(ga, 136, [.nilFunc]), (g4, 24, [.string r.lo, .string r.hi, .bool r.op])] := st21
     replace hTr := hTr.ext hx22 (by simp)
     replace hT := hT.to hx22 (NoNode.nil _)
     replace hnd := hnd.of_ext hx22
     refine ⟨⟨st21.get 1 rfl, hb.ext st21.ext List.not_mem_nil⟩, ?_⟩
     refine RS_e rfl rfl (ef_store st21 rfl rfl rfl size_136 0 rfl rfl rfl rfl (.inr hga)) ?_
     rintro _ w23 ⟨rfl, st24, hx25⟩
     replace st24 : St [] w w23 [(ga, 136, [.func (.func 117) #[] #[.pointer (some ⟨b7, 0, none⟩), .pointer (some ⟨b4, 0, none⟩), .pointer (some ⟨b5, 0, none⟩)]]), (g4, 24, [.string r.lo, .string r.hi, .bool r.op])] := st24
     replace hTr := hTr.ext1 hx25 (st21.get 0 rfl) (by decide) (by decide)
     replace hT := hT.to hx25 (NoNode.one (st21.get 0 rfl) (by decide))
     replace hnd := hnd.of_extX hx25 (NoNode.one (st21.get 0 rfl) (by decide)) (by simpa using hnd.b7.ne_ (st21.get 0 rfl) (by decide)) (by simpa using hnd.b4.ne_ (st21.get 0 rfl) (by decide)) (by simpa using hnd.b5.ne_ (st21.get 0 rfl) (by decide))
     refine ⟨⟨st24.get 1 rfl, hb.ext st24.ext List.not_mem_nil⟩, ?_⟩
     let a26 : Value := .pointer (some ⟨ga, 0, none⟩)
     refine RS_pk [(7, a26)] ?_
     refine RS_nil <| n_then <| W_seq <| W_region ?_
     let a27 : Value := .func (.func 71) #[] #[a26]
     refine RP_sg 3 [.p a27, .p a27, .p (.int .i64 0)] [(4, a27), (5, .int .i64 0)] trivial ?_
     refine RP_nil <| n_then <| W_ret ?_
     have hz : r.check = 0 := by simpa using c11_11
     refine ret_of (P := Tryd.prog) (fn := Tryd.f27) (m := [(4, .func (.func 71) #[] #[.pointer (some ⟨ga, 0, none⟩)]), (5, .int .i64 0)]) (w := w23) (res2 rfl (rv_tmp rfl) (rv_tmp rfl)) ?_
     exact ⟨_, by rw [hz], st24.ext, fun h => absurd hz h, fun _ => ⟨ga, b7, b4, b5, rfl, hga, hb7, hb4, hb5, hnd, st24.get 0 rfl⟩⟩
    ·
     refine RS_e rfl rfl (ef_alloc st15 zero_136 rfl) ?_
     rintro _ w28 ⟨ga, rfl, hga, hga', st29, hx30⟩
     replace st29 : St [] w w28 [(ga, 136, [.nilFunc]), (g4, 24, [.string r.lo, .string r.hi, .bool r.op])] := st29
     replace hTr := hTr.ext hx30 (by simp)
     replace hT := hT.to hx30 (NoNode.nil _)
     refine ⟨⟨st29.get 1 rfl, hb.ext st29.ext List.not_mem_nil⟩, ?_⟩
     refine RS_e rfl rfl (ef_call (k := 70) (args := [a13, .int .i64 ((t.rank r.lo : Nat) : Int), .int .i64 ((t.rankHi r : Nat) : Int)]) (spanIt_cr (p := p) (j0 := j) ((t.rank r.lo : Nat) : Int) ((t.rankHi r : Nat) : Int) hTr hT) body_70 (by kernel_rfl)) ?_
     rintro _ w31 ⟨_, rfl, b7, b4, b5, rfl, hnd, hb7, hb4, hb5, hx33⟩
     have st32 := st29.call0 hx33
     replace hTr := hTr.ext hx33 (by simp)
     replace hT := hT.to hx33 (NoNode.nil _)
     rw [if_neg (by omega), if_neg (by omega)] at hnd
     replace hnd : RowsNd w b7 b4 b5 p _ _ _ := ⟨(NodesKept.of_ext st29.ext (NoNode.nil _)).trans hnd.kept, hnd.b7, hnd.b4, hnd.b5⟩
     have hsz := st29.ext.size
     replace hb7 := Nat.le_trans hsz hb7
     replace hb4 := Nat.le_trans hsz hb4
     replace hb5 := Nat.le_trans hsz hb5
     refine ⟨⟨st32.get 1 rfl, hb.ext st32.ext List.not_mem_nil⟩, ?_⟩
     refine RS_e rfl rfl (ef_store st32 rfl rfl rfl size_136 0 rfl rfl rfl rfl (.inr hga)) ?_
     rintro _ w34 ⟨rfl, st35, hx36⟩
     replace st35 : St [] w w34 [(ga, 136, [.func (.func 117) #[] #[.pointer (some ⟨b7, 0, none⟩), .pointer (some ⟨b4, 0, none⟩), .pointer (some ⟨b5, 0, none⟩)]]), (g4, 24, [.string r.lo, .string r.hi, .bool r.op])] := st35
     replace hTr := hTr.ext1 hx36 (st32.get 0 rfl) (by decide) (by decide)
     replace hT := hT.to hx36 (NoNode.one (st32.get 0 rfl) (by decide))
     replace hnd := hnd.of_extX hx36 (NoNode.one (st32.get 0 rfl) (by decide)) (by simpa using hnd.b7.ne_ (st32.get 0 rfl) (by decide)) (by simpa using hnd.b4.ne_ (st32.get 0 rfl) (by decide)) (by simpa using hnd.b5.ne_ (st32.get 0 rfl) (by decide))
     refine ⟨⟨st35.get 1 rfl, hb.ext st35.ext List.not_mem_nil⟩, ?_⟩
     let a37 : Value := .pointer (some ⟨ga, 0, none⟩)
     refine RS_pk [(7, a37)] ?_
     refine RS_nil <| n_then <| W_seq <| W_region ?_
     let a38 : Value := .func (.func 71) #[] #[a37]
     refine RP_sg 3 [.p a38, .p a38, .p (.int .i64 0)] [(4, a38), (5, .int .i64 0)] trivial ?_
     refine RP_nil <| n_then <| W_ret ?_
     have hz : r.check = 0 := by simpa using c11_11
     refine ret_of (P := Tryd.prog) (fn := Tryd.f27) (m := [(4, .func (.func 71) #[] #[.pointer (some ⟨ga, 0, none⟩)]), (5, .int .i64 0)]) (w := w34) (res2 rfl (rv_tmp rfl) (rv_tmp rfl)) ?_
     exact ⟨_, by rw [hz], st35.ext, fun h => absurd hz h, fun _ => ⟨ga, b7, b4, b5, rfl, hga, hb7, hb4, hb5, hnd, st35.get 0 rfl⟩⟩
   ·
    refine RS_e rfl rfl (ef_alloc st12 zero_136 rfl) ?_
    rintro _ w39 ⟨ga, rfl, hga, hga', st40, hx41⟩
    replace st40 : St [] w w39 [(ga, 136, [.nilFunc]), (g4, 24, [.string r.lo, .string r.hi, .bool r.op])] := st40
    replace hTr := hTr.ext hx41 (by simp)
    replace hT := hT.to hx41 (NoNode.nil _)
    refine ⟨⟨st40.get 1 rfl, hb.ext st40.ext List.not_mem_nil⟩, ?_⟩
    refine RS_e rfl rfl (ef_call (k := 69) (args := [a5, a7]) (storeRank_cr (p := p) (j := j) r ⟨hb.ext st40.ext (by simp), hTr, hT⟩ hs) body_69 (by kernel_rfl)) ?_
    rintro _ w42 ⟨_, rfl, rfl, hx44⟩
    have st43 := st40.call0 hx44
    replace hTr := hTr.ext hx44 (by simp)
    replace hT := hT.to hx44 (NoNode.nil _)
    refine ⟨⟨st43.get 1 rfl, hb.ext st43.ext List.not_mem_nil⟩, ?_⟩
    let a45 : Value := .pointer (some ⟨ga, 0, none⟩)
    refine RS_sg 2 [.p (.int .i64 ((t.rank r.lo : Nat) : Int)), .p (.int .i64 ((t.rankHi r : Nat) : Int))] [(7, a45), (16, a13), (20, .int .i64 ((t.rank r.lo : Nat) : Int)), (21, .int .i64 ((t.rankHi r : Nat) : Int))] (⟨st43.get 1 rfl, hb.ext st43.ext List.not_mem_nil⟩) (fun _ hS => trivial) ?_
    refine RS_e rfl rfl (ef_call (k := 70) (args := [a13, .int .i64 ((t.rank r.lo : Nat) : Int), .int .i64 ((t.rankHi r : Nat) : Int)]) (spanIt_cr (p := p) (j0 := j) ((t.rank r.lo : Nat) : Int) ((t.rankHi r : Nat) : Int) hTr hT) body_70 (by kernel_rfl)) ?_
    rintro _ w46 ⟨_, rfl, b7, b4, b5, rfl, hnd, hb7, hb4, hb5, hx48⟩
    have st47 := st43.call0 hx48
    replace hTr := hTr.ext hx48 (by simp)
    replace hT := hT.to hx48 (NoNode.nil _)
    rw [if_neg (by omega), if_neg (by omega)] at hnd
    replace hnd : RowsNd w b7 b4 b5 p _ _ _ := ⟨(NodesKept.of_ext st43.ext (NoNode.nil _)).trans hnd.kept, hnd.b7, hnd.b4, hnd.b5⟩
    have hsz := st43.ext.size
    replace hb7 := Nat.le_trans hsz hb7
    replace hb4 := Nat.le_trans hsz hb4
    replace hb5 := Nat.le_trans hsz hb5
    refine ⟨⟨st47.get 1 rfl, hb.ext st47.ext List.not_mem_nil⟩, ?_⟩
    refine RS_e rfl rfl (ef_store st47 rfl rfl rfl size_136 0 rfl rfl rfl rfl (.inr hga)) ?_
    rintro _ w49 ⟨rfl, st50, hx51⟩
    replace st50 : St [] w w49 [(ga, 136, [.func (.func 117) #[] #[.pointer (some ⟨b7, 0, none⟩), .pointer (some ⟨b4, 0, none⟩), .pointer (some ⟨b5, 0, none⟩)]]), (g4, 24, [.string r.lo, .string r.hi, .bool r.op])] := st50
    replace hTr := hTr.ext1 hx51 (st47.get 0 rfl) (by decide) (by decide)
    replace hT := hT.to hx51 (NoNode.one (st47.get 0 rfl) (by decide))
    replace hnd := hnd.of_extX hx51 (NoNode.one (st47.get 0 rfl) (by decide)) (by simpa using hnd.b7.ne_ (st47.get 0 rfl) (by decide)) (by simpa using hnd.b4.ne_ (st47.get 0 rfl) (by decide)) (by simpa using hnd.b5.ne_ (st47.get 0 rfl) (by decide))
    refine ⟨⟨st50.get 1 rfl, hb.ext st50.ext List.not_mem_nil⟩, ?_⟩
    refine RS_pk [(7, a45)] ?_
    refine RS_nil <| n_then <| W_seq <| W_region ?_
    let a52 : Value := .func (.func 71) #[] #[a45]
    refine RP_sg 3 [.p a52, .p a52, .p (.int .i64 0)] [(4, a52), (5, .int .i64 0)] trivial ?_
    refine RP_nil <| n_then <| W_ret ?_
    have hz : r.check = 0 := by simpa using c11_11
    refine ret_of (P := Tryd.prog) (fn := Tryd.f27) (m := [(4, .func (.func 71) #[] #[.pointer (some ⟨ga, 0, none⟩)]), (5, .int .i64 0)]) (w := w49) (res2 rfl (rv_tmp rfl) (rv_tmp rfl)) ?_
    exact ⟨_, by rw [hz], st50.ext, fun h => absurd hz h, fun _ => ⟨ga, b7, b4, b5, rfl, hga, hb7, hb4, hb5, hnd, st50.get 0 rfl⟩⟩
end Go.Proofs.YtcopemgkjbaaeaaDoor
namespace Go.Proofs.YtcopemgkjbaaeaaDoor
set_option linter.all false
open Go.RowKit
theorem entCells_snoc (l : List Ent) (e : Ent) : entCells (l ++ [e]) = entCells l ++ e.cells := by simp [entCells]
theorem appendSeq_cr {w : World} {gf : FuncId} {cap : List Value} {xs : List Ent} {Nd : World → Prop} (it : Iter Tryd.prog gf cap (fun e : Ent => [e.v]) xs Nd) (hb : HasBody Tryd.prog gf) (hNd : ∀ W, Ext [] w W → Nd W) (hx : xs.length ≤ 100000) :
    CR Tryd.prog 151 [.slice none 0 0, .func (.func gf) #[] cap.toArray] w fun v w' => ∃ b c, v = .slice b xs.length c ∧ Acc w [] w' 61 5 (.slice b xs.length c) xs.length (entCells xs) ∧ Ext [] w w' := by
  have st := St.init w []
  refine CR_enter Tryd.func151 rfl Tryd.ntmps151 rfl ?_
  refine W_seq <| W_region <| RP_e rfl (ef_box st rfl rfl) ?_
  rintro _ w1 ⟨g2, rfl, hg2, hg2', st2, hx3⟩
  replace st2 : St [] w w1 [(g2, 22, [.slice none 0 0])] := st2
  let a4 : Value := .pointer (some ⟨g2, 0, none⟩)
  let a5 : Value := .slice none 0 0
  refine RP_sg 1 [.p a5] [(1, .func (.func gf) #[] cap.toArray), (2, a4), (4, a5)] trivial ?_
  refine RP_nil <| n_then <| W_seq <| W_seq <| W_region <| RP_sg 1 [.p (.func (.func gf) #[] cap.toArray)] [(2, a4), (4, a5), (6, .func (.func gf) #[] cap.toArray)] trivial ?_
  refine RP_nil <| n_then <| W_block ?_
  have hBl6 := st2.ext.size
  refine W_range (encs := (fun e : Ent => [e.v])) (xs := xs) (it) rfl hb (fun _ => rfl) (by kernel_rfl) (fun (pre : List Ent) (w_ : World) => ∃ (b : Option Addr) (c : Nat), St [] w w_ [(g2, 22, [.slice b pre.length c])] ∧ Acc w [] w_ 61 5 (.slice b pre.length c) pre.length (entCells pre)) (fun _ _ => False) ?_ ?_ ?_ ?_ ?_ ?_ ?_ ?_
  · rintro pre A_ B_ ⟨b, c, hst_, hac⟩ hg_
    exact ⟨b, c, hst_.grow hg_ hBl6, hac.grow hg_⟩
  · exact fun _ _ _ h _ => h
  · rintro pre w_ ⟨b, c, hst_, hac⟩
    exact hNd _ hst_.ext
  · exact fun _ _ h => h.elim
  · exact ⟨none, 0, st2, Acc.nil _ _ _ _ _⟩
  · -- a round
   rintro l_ pre e w7 ⟨b, c, st8, hac⟩ hpre_ hle_
   have hlo := ownsRow.lt hac.own
   have hpl : pre.length < xs.length := by have := hpre_.length_le; simp at this; omega
   have hkn := KeepsN.refl (w1).heap.size w7
   refine W_pick [2, 7] (by kernel_rfl : pick _ _ = some [(2, a4), (7, .agg #[.string e.key, .int .i64 e.c, .int .i64 e.n, .string e.val, .bool e.dead])]) ?_
   refine W_region <| RP_e rfl (ef_alloc st8 zero_61 rfl) ?_
   rintro _ w9 ⟨g5, rfl, hg5, hg5', st10, hx11⟩
   replace st10 : St [] w w9 [(g5, 61, [.string (⟨#[]⟩ : ByteArray), .int .i64 0, .int .i64 0, .string (⟨#[]⟩ : ByteArray), .bool false]), (g2, 22, [.slice b pre.length c])] := st10
   replace hac := hac.ext hx11 (by simp)
   replace hkn := hkn.ext0 hx11
   refine RP_e rfl (ef_store st10 rfl rfl rfl size_61 0 rfl rfl rfl rfl (.inr hg5)) ?_
   rintro _ w12 ⟨rfl, st13, hx14⟩
   replace st13 : St [] w w12 [(g5, 61, [.string e.key, .int .i64 e.c, .int .i64 e.n, .string e.val, .bool e.dead]), (g2, 22, [.slice b pre.length c])] := st13
   replace hac := hac.ext hx14 (fun q hq hm => by simp only [List.mem_singleton] at hm; have := (hlo q hq).1; omega)
   replace hkn := hkn.ext1 hx14 (st10.get 0 rfl) rfl
   let a15 : Value := .pointer (some ⟨g5, 0, none⟩)
   refine RP_pk [(2, a4), (5, a15)] ?_
   refine RP_nil <| assign_end hkn (fun w16 hg17 => ?_)
   have st18 := st13.grow hg17 (hBl6)
   replace hac := hac.grow hg17
   replace hkn := KeepsN.refl (w1).heap.size w16
   refine W_block <| W_region ?_
   let a19 : Value := .slice b pre.length c
   let a20 : Value := .agg #[.string e.key, .int .i64 e.c, .int .i64 e.n, .string e.val, .bool e.dead]
   refine RP_sg 2 [.l 22 a4 a19, .l 61 a15 a20] [(2, a4), (8, a19), (9, a20)] ⟨ld1 st18 nagg_22 1 rfl rfl, ldN st18 agg_61 0 rfl rfl rfl, trivial⟩ ?_
   refine RP_e rfl (ef_new (t := 61) (cs := [.string e.key, .int .i64 e.c, .int .i64 e.n, .string e.val, .bool e.dead]) (fun g => .slice (some ⟨g, 0, none⟩) 1 1) st18 rfl rfl (fun _ => by kernel_rfl)) ?_
   rintro _ w21 ⟨g24, rfl, hg24, hg24', st22, hx23⟩
   replace hac := hac.ext hx23 (by simp)
   replace hkn := hkn.ext0 hx23
   have hkown := hac.own
   refine RP_e rfl (ef_appendI appEnt (st22.sub (M' := [(g5, 61, [.string e.key, .int .i64 e.c, .int .i64 e.n, .string e.val, .bool e.dead]), (g2, 22, [.slice b pre.length c])]) [] (List.sublist_cons_self _ _)) hac rfl rfl (InS.of_blk (st22.get 0 rfl)) rfl rfl (by simp only [maxLen]; omega) (by omega) (apart_new2 hlo hg5' (ownsRow.not_blk hac.own ((st22.sub [] (List.sublist_cons_self _ _)).get 1 rfl) (by decide)))) ?_
   rintro _ w25 ⟨v3, rfl, hac, st26, hx27⟩
   replace hkn := hkn.extOwn hx27 hkown rfl
   obtain ⟨b3, c3, rfl⟩ := ownsRow.form' hac.own
   refine RP_e rfl (ef_store st26 rfl rfl rfl size_22 1 rfl rfl rfl rfl (.inr hg2)) ?_
   rintro _ w28 ⟨rfl, st29, hx30⟩
   replace st29 : St [] w w28 [(g5, 61, [.string e.key, .int .i64 e.c, .int .i64 e.n, .string e.val, .bool e.dead]), (g2, 22, [.slice b3 (pre.length + 1) c3])] := st29
   replace hac := hac.ext hx30 (hac.not_blk (st26.get 1 rfl) (by decide))
   replace hkn := hkn.ext1 hx30 (st26.get 1 rfl) rfl
   refine RP_pk [] ?_
   refine RP_nil <| n_block ?_
   have hle3 : (pre ++ [e]).length = pre.length + 1 := by simp
   exact round_end hkn ⟨b3, c3, by rw [hle3]; exact st29.sub [] (List.sublist_cons_self _ _), by rw [hle3, entCells_snoc]; exact hac⟩
  · -- all have come
   rintro D31 w32 hD31w ⟨b, c, st33, hac⟩ hD31
   replace hD31w := Nat.le_trans hBl6 hD31w
   replace hD31 : IsDef w32 D31 := hD31
   refine n_block <| n_then <| W_seq <| W_region ?_
   let a34 : Value := .slice b xs.length c
   refine RP_sg 2 [.l 22 a4 a34, .p a34] [(4, a34), (1000000, .pointer (some ⟨D31, 0, none⟩))] ⟨ld1 st33 nagg_22 0 rfl rfl, trivial⟩ ?_
   let a35 : Value := .pointer (some ⟨D31, 0, none⟩)
   refine RP_pk [(4, a34), (1000000, a35)] ?_
   refine RP_nil <| n_then <| W_ret <| ret_ofM (P := Tryd.prog) (fn := Tryd.f151) (m := [(4, .slice b xs.length c), (1000000, .pointer (some ⟨D31, 0, none⟩))]) (w := w32) (D := D31) rfl hD31 (fun w36 hg37 => ?_)
   have st38 := st33.grow hg37 (hD31w)
   replace hac := hac.grow hg37
   refine ⟨_, res1 rfl (rv_tmp rfl), ?_⟩
   exact ⟨b, c, rfl, hac, st38.ext⟩
  · -- it was left
   exact fun _ _ _ _ h _ => h.elim
theorem collect_cr {w : World} {gf : FuncId} {cap : List Value} {xs : List Ent} {Nd : World → Prop} (it : Iter Tryd.prog gf cap (fun e : Ent => [e.v]) xs Nd) (hb : HasBody Tryd.prog gf) (hNd : ∀ W, Ext [] w W → Nd W) (hx : xs.length ≤ 100000) :
    CR Tryd.prog 136 [.func (.func gf) #[] cap.toArray] w fun v w' => ∃ b c, v = .slice b xs.length c ∧ Acc w [] w' 61 5 (.slice b xs.length c) xs.length (entCells xs) ∧ Ext [] w w' := by
  have st := St.init w []
  refine CR_enter Tryd.func136 rfl Tryd.ntmps136 rfl ?_
  refine W_seq <| W_region <| RP_sg 1 [.p (.slice none 0 0)] [(0, .func (.func gf) #[] cap.toArray)] trivial ?_
  refine RP_nil <| n_then <| W_seq <| W_region <| RP_sg 1 [.p (.func (.func gf) #[] cap.toArray)] [(3, .func (.func gf) #[] cap.toArray)] trivial ?_
  refine RP_e rfl (ef_call (k := 151) (args := [.slice none 0 0, .func (.func gf) #[] cap.toArray]) (appendSeq_cr it hb (fun W h => hNd W (st.ext.trans h)) hx) body_151 (by kernel_rfl)) ?_
  rintro _ w1 ⟨_, rfl, b, c, rfl, hac, hx3⟩
  have st2 := st.call0 hx3
  let a4 : Value := .slice b xs.length c
  refine RP_sg 1 [.p a4] [(2, a4)] trivial ?_
  refine RP_nil <| n_then <| W_ret <| ret_of (P := Tryd.prog) (fn := Tryd.f136) (m := [(2, .slice b xs.length c)]) (w := w1) (res1 rfl (rv_tmp rfl)) ?_
  exact ⟨b, c, rfl, ⟨hac.own, fun q hq => (hac.inn q hq).imp id (Nat.le_trans st.ext.size)⟩, st2.ext⟩
def T.rowsR (t : T) (r : Rng) : List Ent := cond (r.check != 0) [] (t.rows (t.rank r.lo : Nat) (t.rankHi r : Nat))
theorem T.rows_le : ∀ (t : T) (i j : Int), (t.rows i j).length ≤ t.size
  | .nil, _, _ => Nat.le_refl _
  | .node e l r, i, j => by
    have h1 := T.rows_le l i (if ((l.size : Nat) : Int) < j then ((l.size : Nat) : Int) else j)
    have h2 := T.rows_le r (if 0 > i - ((l.size : Nat) : Int) - 1 then 0 else i - ((l.size : Nat) : Int) - 1) (j - ((l.size : Nat) : Int) - 1)
    unfold T.rows
    cases decide (i ≥ j) <;> cases (decide (i > ((l.size : Nat) : Int)) || decide (((l.size : Nat) : Int) ≥ j)) <;>
      simp only [cond_true, cond_false, List.length_nil, List.length_append, List.length_cons, T.size] <;> omega
theorem T.rowsR_le (t : T) (r : Rng) : (t.rowsR r).length ≤ t.size := by
  unfold T.rowsR
  cases r.check != 0
  · exact T.rows_le _ _ _
  · exact Nat.zero_le _
theorem matchHeld_cr {w : World} {gs bm bt : Nat} {p : Option Addr} {node clock j : Int} {t : T} (r : Rng) (hS : Sto w gs bm bt p node clock j t) (hs : t.size ≤ 10000) :
    CR Tryd.prog 107 [.pointer (some ⟨gs, 0, none⟩), r.v] w fun v w' => ∃ b c, v = .slice b (t.rowsR r).length c ∧ Acc w [] w' 61 5 (.slice b (t.rowsR r).length c) (t.rowsR r).length (entCells (t.rowsR r)) ∧ Ext [] w w' := by
  have st := St.init w []
  have hrl := T.rank_le r.lo t
  have hrh := T.rankHi_le t r
  by_cases hr : r.check = 0
  · have hr' : (r.check != 0) = false := by rw [hr]; rfl
    have hRR : t.rowsR r = t.rows (t.rank r.lo : Nat) (t.rankHi r : Nat) := by unfold T.rowsR; rw [hr']; rfl
    have hRl := t.rows_le (t.rank r.lo : Nat) (t.rankHi r : Nat)
    rw [hRR]
    refine CR_enter Tryd.func107 rfl Tryd.ntmps107 rfl ?_
    refine W_seq <| W_region <| RP_e rfl (ef_box st rfl rfl) ?_
    rintro _ w1 ⟨g4, rfl, hg4, hg4', st2, hx3⟩
    replace st2 : St [] w w1 [(g4, 24, [.string r.lo, .string r.hi, .bool r.op])] := st2
    let a5 : Value := .pointer (some ⟨gs, 0, none⟩)
    let a6 : Value := .pointer (some ⟨g4, 0, none⟩)
    refine RP_sg 1 [.p (.slice none 0 0)] [(0, a5), (3, a6)] trivial ?_
    refine RP_nil <| n_then <| W_seq <| W_region ?_
    let a7 : Value := .agg #[.string r.lo, .string r.hi, .bool r.op]
    refine RP_sg 2 [.p a5, .l 24 a6 a7] [(8, a5), (9, a7)] ⟨ldN st2 agg_24 0 rfl rfl rfl, trivial⟩ ?_
    refine RP_e rfl (ef_call (k := 27) (args := [a5, a7]) (storeAll_cr (p := p) (j := j) (t := t) r ⟨hS.blk.ext st2.ext (by simp), hS.tr.ext st2.ext (by simp), hS.ist.to st2.ext (NoNode.nil _)⟩ hs) body_27 (by kernel_rfl)) ?_
    rintro _ w8 ⟨_, rfl, u, rfl, hx10, -, hu⟩
    have st9 := st2.call0 hx10
    obtain ⟨ga, b7, b4, b5, rfl, -, -, -, -, hnd⟩ := hu hr
    let a11 : Value := .func (.func 71) #[] #[.pointer (some ⟨ga, 0, none⟩)]
    refine RP_sg 5 [.p (.tuple #[a11, .int .i64 r.check]), .p a11, .p (.int .i64 r.check), .p a11, .p (.int .i64 r.check)] [(5, a11), (6, .int .i64 r.check)] trivial ?_
    refine RP_nil <| n_then <| W_seq <| W_seq <| W_region <| RP_sg 2 [.p (.int .i64 r.check), .p (.bool (r.check != 0))] [(5, a11), (14, .bool (r.check != 0))] trivial ?_
    refine RP_nil <| n_then <| W_false' rfl hr' ?_
    refine W_skip <| n_then <| W_seq <| W_region <| RP_sg 1 [.p a11] [(15, a11)] trivial ?_
    refine RP_e rfl (ef_call (k := 136) (args := [a11]) (collect_cr (cap := [.pointer (some ⟨ga, 0, none⟩)]) (all_it (hS.ist.to st2.ext (NoNode.nil _)) (by omega) (by omega) (by omega) (by omega) (by omega)) body_71 (fun W h => hnd.of_ext h) (by omega)) body_136 (by kernel_rfl)) ?_
    rintro _ w12 ⟨_, rfl, b, c, rfl, hac, hx14⟩
    have st13 := st9.call0 hx14
    have hsz9 := st9.ext.size
    let a15 : Value := .slice b ((t.rows ((t.rank r.lo : Nat) : Int) ((t.rankHi r : Nat) : Int)).length) c
    refine RP_sg 1 [.p a15] [(4, a15)] trivial ?_
    refine RP_nil <| n_then <| W_ret <| ret_of (P := Tryd.prog) (fn := Tryd.f107) (m := [(4, .slice b ((t.rows ((t.rank r.lo : Nat) : Int) ((t.rankHi r : Nat) : Int)).length) c)]) (w := w12) (res1 rfl (rv_tmp rfl)) ?_
    exact ⟨b, c, rfl, ⟨hac.own, fun q hq => (hac.inn q hq).imp id (Nat.le_trans hsz9)⟩, st13.ext⟩
  · have hr' : (r.check != 0) = true := by simpa using hr
    have hRR : t.rowsR r = [] := by unfold T.rowsR; rw [hr']; rfl
    rw [hRR]
    refine CR_enter Tryd.func107 rfl Tryd.ntmps107 rfl ?_
    refine W_seq <| W_region <| RP_e rfl (ef_box st rfl rfl) ?_
    rintro _ w1 ⟨g4, rfl, hg4, hg4', st2, hx3⟩
    replace st2 : St [] w w1 [(g4, 24, [.string r.lo, .string r.hi, .bool r.op])] := st2
    let a5 : Value := .pointer (some ⟨gs, 0, none⟩)
    let a6 : Value := .pointer (some ⟨g4, 0, none⟩)
    refine RP_sg 1 [.p (.slice none 0 0)] [(0, a5), (3, a6)] trivial ?_
    refine RP_nil <| n_then <| W_seq <| W_region ?_
    let a7 : Value := .agg #[.string r.lo, .string r.hi, .bool r.op]
    refine RP_sg 2 [.p a5, .l 24 a6 a7] [(8, a5), (9, a7)] ⟨ldN st2 agg_24 0 rfl rfl rfl, trivial⟩ ?_
    refine RP_e rfl (ef_call (k := 27) (args := [a5, a7]) (storeAll_cr (p := p) (j := j) (t := t) r ⟨hS.blk.ext st2.ext (by simp), hS.tr.ext st2.ext (by simp), hS.ist.to st2.ext (NoNode.nil _)⟩ hs) body_27 (by kernel_rfl)) ?_
    rintro _ w8 ⟨_, rfl, u, rfl, hx10, -, -⟩
    have st9 := st2.call0 hx10
    refine RP_sg 5 [.p (.tuple #[u, .int .i64 r.check]), .p u, .p (.int .i64 r.check), .p u, .p (.int .i64 r.check)] [(5, u), (6, .int .i64 r.check)] trivial ?_
    refine RP_nil <| n_then <| W_seq <| W_seq <| W_region <| RP_sg 2 [.p (.int .i64 r.check), .p (.bool (r.check != 0))] [(5, u), (14, .bool (r.check != 0))] trivial ?_
    refine RP_nil <| n_then <| W_true' rfl hr' ?_
    refine W_seq <| W_region ?_
    let a11 : Value := .slice none 0 0
    refine RP_sg 1 [.p a11] [(4, a11)] trivial ?_
    refine RP_nil <| n_then <| W_ret <| r_then ?_
    refine ret_of (P := Tryd.prog) (fn := Tryd.f107) (m := [(4, .slice none 0 0)]) (w := w8) (res1 rfl (rv_tmp rfl)) ?_
    exact ⟨none, 0, rfl, Acc.nil _ _ _ _ _, st9.ext⟩
end Go.Proofs.YtcopemgkjbaaeaaDoor
namespace Go.Proofs.YtcopemgkjbaaeaaDoor
set_option linter.all false
open Go.RowKit
def cmpI (a b : Int) : Int := cond (decide (a < b)) (-1) (cond (decide (a > b)) 1 0)
def vcmp (c n d k : Int) : Int := cond (cmpI c d != 0) (cmpI c d) (cmpI n k)
def newer (e f : Ent) : Bool := decide (vcmp e.c e.n f.c f.n > 0)
def Ent.zero : Ent := ⟨⟨#[]⟩, 0, 0, ⟨#[]⟩, false⟩
def entO (o : Option Ent) : Ent := o.getD Ent.zero
theorem entV_eq (o : Option Ent) : entV o = (entO o).v := by cases o <;> rfl
def there (e : Ent) : Bool := !(e.c == 0 && e.n == 0)
theorem idxInt : IdxT Tryd.prog 82 3 1 := ⟨by kernel_rfl, size_3⟩
theorem isNaN_cr (a : Int) (w : World) : CR Tryd.prog 153 [.int .i64 a] w fun v w' => v = .bool false ∧ w = w' := by
  have st := St.init w []
  have h : (a != a) = false := by simp
  refine CR_enter Tryd.func153 rfl Tryd.ntmps153 rfl ?_
  refine W_seq <| W_region <| RP_sg 1 [.p (.bool false)] [(0, .int .i64 a)] trivial ?_
  refine RP_nil <| n_then <| W_seq <| W_region <| RP_sg 4 [.p (.int .i64 a), .p (.int .i64 a), .p (.bool (a != a)), .p (.bool (a != a))] [(2, .bool (a != a))] trivial ?_
  refine RP_nil <| n_then <| W_ret <| ret_of (P := Tryd.prog) (fn := Tryd.f153) (m := [(2, .bool (a != a))]) (w := w) (res1 rfl (rv_tmp rfl)) ?_
  exact ⟨by rw [h], rfl⟩
theorem cmpCompare_cr (a b : Int) (w : World) : CR Tryd.prog 141 [.int .i64 a, .int .i64 b] w fun v w' => v = .int .i64 (cmpI a b) ∧ w = w' := by
  have st := St.init w []
  unfold cmpI
  refine CR_enter Tryd.func141 rfl Tryd.ntmps141 rfl ?_
  refine W_seq <| W_region <| RP_sg 1 [.p (.int .i64 0)] [(0, .int .i64 a), (1, .int .i64 b)] trivial ?_
  refine RP_nil <| n_then <| W_seq <| W_region <| RP_sg 1 [.p (.int .i64 a)] [(0, .int .i64 a), (1, .int .i64 b), (7, .int .i64 a)] trivial ?_
  refine RP_e rfl (ef_call (k := 153) (args := [.int .i64 a]) (isNaN_cr a _) body_153 (by kernel_rfl)) ?_
  rintro _ _ ⟨_, rfl, rfl, rfl⟩
  refine RP_sg 1 [.p (.bool false)] [(0, .int .i64 a), (1, .int .i64 b), (5, .bool false)] trivial ?_
  refine RP_nil <| n_then <| W_seq <| W_region <| RP_sg 1 [.p (.int .i64 b)] [(0, .int .i64 a), (1, .int .i64 b), (5, .bool false), (9, .int .i64 b)] trivial ?_
  refine RP_e rfl (ef_call (k := 153) (args := [.int .i64 b]) (isNaN_cr b _) body_153 (by kernel_rfl)) ?_
  rintro _ _ ⟨_, rfl, rfl, rfl⟩
  refine RP_sg 1 [.p (.bool false)] [(0, .int .i64 a), (1, .int .i64 b), (5, .bool false), (6, .bool false)] trivial ?_
  refine RP_nil <| n_then <| W_seq <| W_seq <| W_region <| RP_sg 1 [.p (.bool false)] [(0, .int .i64 a), (1, .int .i64 b), (6, .bool false), (11, .bool false)] trivial ?_
  refine RP_nil <| n_then <| W_false rfl ?_
  refine W_skip <| n_then <| W_seq <| W_seq <| W_region <| RP_sg 1 [.p (.bool false)] [(0, .int .i64 a), (1, .int .i64 b), (13, .bool false)] trivial ?_
  refine RP_nil <| n_then <| W_false rfl ?_
  refine W_skip <| n_then <| W_seq <| W_seq <| W_region <| RP_sg 3 [.p (.int .i64 a), .p (.int .i64 b), .p (.bool (decide (a < b)))] [(0, .int .i64 a), (1, .int .i64 b), (16, .bool (decide (a < b)))] trivial ?_
  refine RP_nil <| n_then <| W_cond rfl (fun c16_7 => ?_) (fun c16_7 => ?_)
  ·
   have c16_7p := of_decide_eq_true c16_7
   refine W_seq <| W_region <| RP_sg 1 [.p (.int .i64 (-1))] [(4, .int .i64 (-1))] trivial ?_
   refine RP_nil <| n_then <| W_ret <| r_then ?_
   refine ret_of (P := Tryd.prog) (fn := Tryd.f141) (m := [(4, .int .i64 (-1))]) (w := w) (res1 rfl (rv_tmp rfl)) ?_
   exact ⟨by (try rw [c16_7]); rfl, rfl⟩
  ·
   have c16_7p := of_decide_eq_false c16_7
   refine W_skip <| n_then <| W_seq <| W_seq <| W_region <| RP_sg 3 [.p (.int .i64 a), .p (.int .i64 b), .p (.bool (decide (a > b)))] [(19, .bool (decide (a > b)))] trivial ?_
   refine RP_nil <| n_then <| W_cond rfl (fun c19_8 => ?_) (fun c19_8 => ?_)
   ·
    have c19_8p := of_decide_eq_true c19_8
    refine W_seq <| W_region <| RP_sg 1 [.p (.int .i64 1)] [(4, .int .i64 1)] trivial ?_
    refine RP_nil <| n_then <| W_ret <| r_then ?_
    refine ret_of (P := Tryd.prog) (fn := Tryd.f141) (m := [(4, .int .i64 1)]) (w := w) (res1 rfl (rv_tmp rfl)) ?_
    exact ⟨by (try rw [c16_7]); (try rw [c19_8]); rfl, rfl⟩
   ·
    have c19_8p := of_decide_eq_false c19_8
    refine W_skip <| n_then <| W_seq <| W_region <| RP_sg 1 [.p (.int .i64 0)] [(4, .int .i64 0)] trivial ?_
    refine RP_nil <| n_then <| W_ret <| ret_of (P := Tryd.prog) (fn := Tryd.f141) (m := [(4, .int .i64 0)]) (w := w) (res1 rfl (rv_tmp rfl)) ?_
    exact ⟨by (try rw [c16_7]); (try rw [c19_8]); rfl, rfl⟩
theorem cmpOr_cr {w : World} {p : Option Addr} {c : Nat} (a b : Int) (hin : InS w p [.int .i64 a, .int .i64 b]) : CR Tryd.prog 140 [.slice p 2 c] w fun v w' => v = .int .i64 (cond (a != 0) a b) ∧ w = w' := by
  have st := St.init w []
  have hbs := hin.some_ (by simp)
  refine CR_enter Tryd.func140 rfl Tryd.ntmps140 rfl ?_
  refine W_seq <| W_region <| RP_sg 1 [.p (.int .i64 0)] [(0, .slice p 2 c)] trivial ?_
  refine RP_nil <| n_then <| W_seq <| W_region <| RP_sg 1 [.p (.int .i64 0)] [(0, .slice p 2 c), (3, .int .i64 0)] trivial ?_
  refine RP_nil <| n_then <| W_seq <| W_seq <| W_region <| RP_sg 3 [.p (.slice p 2 c), .p (.int .i64 2), .p (.int .i64 0)] [(3, .int .i64 0), (6, .slice p 2 c), (7, .int .i64 2), (8, .int .i64 0)] trivial ?_
  refine RP_nil <| n_then <| W_block <| W_unroll 2 ?_
  refine W_seq <| W_region <| RP_sg 1 [.p (.bool true)] [(3, .int .i64 0), (6, .slice p 2 c), (7, .int .i64 2), (8, .int .i64 0), (9, .bool true)] trivial ?_
  refine RP_nil <| n_then <| W_seq <| W_true rfl ?_
  refine W_skip <| n_then <| W_seq <| W_block <| W_seq <| W_region <| RP_q rfl (v := .pointer (some ⟨(sp p), so p + 0 * 1, none⟩)) (ev_indexI (i := 0) idxInt rfl rfl hbs (by decide)) ?_
  refine RP_sg 2 [.l 3 (.pointer (some ⟨(sp p), so p + 0 * 1, none⟩)) (.int .i64 a), .p (.int .i64 a)] [(3, .int .i64 0), (5, .int .i64 a), (6, .slice p 2 c), (7, .int .i64 2), (8, .int .i64 0)] ⟨InS.load1 (o := 0 * 1) nagg_3 hin rfl, trivial⟩ ?_
  refine RP_nil <| n_then <| W_seq <| W_region <| RP_sg 3 [.p (.int .i64 a), .p (.int .i64 0), .p (.bool (a != 0))] [(3, .int .i64 0), (5, .int .i64 a), (6, .slice p 2 c), (7, .int .i64 2), (8, .int .i64 0), (14, .bool (a != 0))] trivial ?_
  refine RP_nil <| n_then <| W_cond rfl (fun c14_1 => ?_) (fun c14_1 => ?_)
  ·
   refine W_seq <| W_region <| RP_sg 2 [.p (.int .i64 a), .p (.int .i64 a)] [(2, .int .i64 a)] trivial ?_
   refine RP_nil <| n_then <| W_ret <| r_block <| r_then <| r_unr <| r_block <| r_then ?_
   refine ret_of (P := Tryd.prog) (fn := Tryd.f140) (m := [(2, .int .i64 a)]) (w := w) (res1 rfl (rv_tmp rfl)) ?_
   exact ⟨by rw [c14_1]; rfl, rfl⟩
  ·
   refine W_skip <| n_block <| n_then <| W_region <| RP_sg 2 [.p (.int .i64 1), .p (.int .i64 1)] [(3, .int .i64 0), (6, .slice p 2 c), (7, .int .i64 2), (8, .int .i64 1)] trivial ?_
   refine RP_nil <| n_unr <| W_seq <| W_region <| RP_sg 1 [.p (.bool true)] [(3, .int .i64 0), (6, .slice p 2 c), (7, .int .i64 2), (8, .int .i64 1), (9, .bool true)] trivial ?_
   refine RP_nil <| n_then <| W_seq <| W_true rfl ?_
   refine W_skip <| n_then <| W_seq <| W_block <| W_seq <| W_region <| RP_q rfl (v := .pointer (some ⟨(sp p), so p + 1 * 1, none⟩)) (ev_indexI (i := 1) idxInt rfl rfl hbs (by decide)) ?_
   refine RP_sg 2 [.l 3 (.pointer (some ⟨(sp p), so p + 1 * 1, none⟩)) (.int .i64 b), .p (.int .i64 b)] [(3, .int .i64 0), (5, .int .i64 b), (6, .slice p 2 c), (7, .int .i64 2), (8, .int .i64 1)] ⟨InS.load1 (o := 1 * 1) nagg_3 hin rfl, trivial⟩ ?_
   refine RP_nil <| n_then <| W_seq <| W_region <| RP_sg 3 [.p (.int .i64 b), .p (.int .i64 0), .p (.bool (b != 0))] [(3, .int .i64 0), (5, .int .i64 b), (6, .slice p 2 c), (7, .int .i64 2), (8, .int .i64 1), (14, .bool (b != 0))] trivial ?_
   refine RP_nil <| n_then <| W_cond rfl (fun c14_2 => ?_) (fun c14_2 => ?_)
   ·
    refine W_seq <| W_region <| RP_sg 2 [.p (.int .i64 b), .p (.int .i64 b)] [(2, .int .i64 b)] trivial ?_
    refine RP_nil <| n_then <| W_ret <| r_block <| r_then <| r_unr <| r_block <| r_then ?_
    refine ret_of (P := Tryd.prog) (fn := Tryd.f140) (m := [(2, .int .i64 b)]) (w := w) (res1 rfl (rv_tmp rfl)) ?_
    exact ⟨by rw [c14_1]; rfl, rfl⟩
   ·
    refine W_skip <| n_block <| n_then <| W_region <| RP_sg 2 [.p (.int .i64 2), .p (.int .i64 2)] [(3, .int .i64 0), (6, .slice p 2 c), (7, .int .i64 2), (8, .int .i64 2)] trivial ?_
    refine RP_nil <| n_unr <| W_seq <| W_region <| RP_sg 1 [.p (.bool false)] [(3, .int .i64 0), (6, .slice p 2 c), (7, .int .i64 2), (8, .int .i64 2), (9, .bool false)] trivial ?_
    refine RP_nil <| n_then <| W_seq <| W_false rfl ?_
    refine W_exit ?_
    refine e_then <| e_unr <| e_here ?_
    refine n_then <| W_seq <| W_region <| RP_sg 2 [.p (.int .i64 0), .p (.int .i64 0)] [(2, .int .i64 0)] trivial ?_
    refine RP_nil <| n_then <| W_ret <| ret_of (P := Tryd.prog) (fn := Tryd.f140) (m := [(2, .int .i64 0)]) (w := w) (res1 rfl (rv_tmp rfl)) ?_
    exact ⟨by have h1 := c14_1; have h2 := c14_2; simp at h1 h2; subst h1; subst h2; rfl, rfl⟩
theorem itemCompare_cr (c n d k : Int) (w : World) : CR Tryd.prog 113 [.agg #[.int .i64 c, .int .i64 n], .agg #[.int .i64 d, .int .i64 k]] w fun v w' => v = .int .i64 (vcmp c n d k) ∧ Ext [] w w' := by
  have st := St.init w []
  refine CR_enter Tryd.func113 rfl Tryd.ntmps113 rfl ?_
  refine W_seq <| W_region <| RP_e rfl (ef_box st rfl rfl) ?_
  rintro _ w1 ⟨g4, rfl, hg4, hg4', st2, hx3⟩
  replace st2 : St [] w w1 [(g4, 59, [.int .i64 c, .int .i64 n])] := st2
  refine RP_e rfl (ef_box st2 rfl rfl) ?_
  rintro _ w5 ⟨g8, rfl, hg8, hg8', st6, hx7⟩
  replace st6 : St [] w w5 [(g8, 59, [.int .i64 d, .int .i64 k]), (g4, 59, [.int .i64 c, .int .i64 n])] := st6
  let a9 : Value := .pointer (some ⟨g4, 0, none⟩)
  let a10 : Value := .pointer (some ⟨g8, 0, none⟩)
  refine RP_sg 1 [.p (.int .i64 0)] [(2, a9), (3, a10)] trivial ?_
  refine RP_nil <| n_then <| W_seq <| W_regionS ⟨(fun w' => Blk w' g8 59 [.int .i64 d, .int .i64 k].toArray ∧ Blk w' g4 59 [.int .i64 c, .int .i64 n].toArray), (fun _ => True)⟩ (.cons 1 0 (.cons 1 1 (.cons 1 2 (.cons 1 3 (.cons 1 5 (.cons 1 6 (.cons 1 7 (.cons 1 8 (.cons 2 4 (.cons 2 9 (.cons 2 10 (.cons 2 11 (.cons 0 12 .nil))))))))))))) 13 (by kernel_rfl) (by kernel_rfl) ?_
  have st11 := st6.drew
  refine RS_sg 8 [.p a9, .l 3 a9 (.int .i64 c), .p a10, .l 3 a10 (.int .i64 d), .p (.pointer (some ⟨g4, 1, none⟩)), .l 3 (.pointer (some ⟨g4, 1, none⟩)) (.int .i64 n), .p (.pointer (some ⟨g8, 1, none⟩)), .l 3 (.pointer (some ⟨g8, 1, none⟩)) (.int .i64 k)] [(6, .int .i64 c), (8, .int .i64 d), (11, .int .i64 n), (13, .int .i64 k)] (⟨st11.get 0 rfl, st11.get 1 rfl⟩) (fun _ hS => ⟨ld1b (hS.2) nagg_3 rfl, ld1b (hS.1) nagg_3 rfl, ld1b (hS.2) nagg_3 rfl, ld1b (hS.1) nagg_3 rfl, trivial⟩) ?_
  refine RS_e rfl rfl (ef_call (k := 141) (args := [.int .i64 c, .int .i64 d]) (cmpCompare_cr _ _ _) body_141 (by kernel_rfl)) ?_
  rintro _ _ ⟨_, rfl, rfl, rfl⟩
  refine ⟨⟨st11.get 0 rfl, st11.get 1 rfl⟩, ?_⟩
  refine RS_e rfl rfl (ef_call (k := 141) (args := [.int .i64 n, .int .i64 k]) (cmpCompare_cr _ _ _) body_141 (by kernel_rfl)) ?_
  rintro _ _ ⟨_, rfl, rfl, rfl⟩
  refine ⟨⟨st11.get 0 rfl, st11.get 1 rfl⟩, ?_⟩
  refine RS_e rfl rfl (ef_new (t := 3) (cs := [.int .i64 (cmpI c d), .int .i64 (cmpI n k)]) (fun g => .slice (some ⟨g, 0, none⟩) 2 2) st11 rfl rfl (fun _ => by kernel_rfl)) ?_
  rintro _ w18 ⟨g21, rfl, hg21, hg21', st19, hx20⟩
  refine ⟨⟨st19.get 1 rfl, st19.get 2 rfl⟩, ?_⟩
  refine RS_e rfl rfl (ef_call (k := 140) (args := [.slice (some ⟨g21, 0, none⟩) 2 2]) (cmpOr_cr _ _ (InS.of_blk (st19.get 0 rfl))) body_140 (by kernel_rfl)) ?_
  rintro _ _ ⟨_, rfl, rfl, rfl⟩
  refine ⟨⟨st19.get 1 rfl, st19.get 2 rfl⟩, ?_⟩
  refine RS_sgP 1 [.p (.int .i64 (cond (cmpI c d != 0) (cmpI c d) (cmpI n k)))] [(4, .int .i64 (cond (cmpI c d != 0) (cmpI c d) (cmpI n k)))] (fun _ => trivial) ?_
  refine RS_nil <| n_then <| W_ret <| ret_of (P := Tryd.prog) (fn := Tryd.f113) (m := [(4, .int .i64 (cond (cmpI c d != 0) (cmpI c d) (cmpI n k)))]) (w := w18) (res1 rfl (rv_tmp rfl)) ?_
  exact ⟨rfl, st19.ext⟩
theorem newer_cr (e f : Ent) (w : World) : CR Tryd.prog 66 [e.v, f.v] w fun v w' => v = .bool (newer e f) ∧ Ext [] w w' := by
  have st := St.init w []
  refine CR_enter Tryd.func66 rfl Tryd.ntmps66 rfl ?_
  refine W_seq <| W_region <| RP_e rfl (ef_box st rfl rfl) ?_
  rintro _ w1 ⟨g4, rfl, hg4, hg4', st2, hx3⟩
  replace st2 : St [] w w1 [(g4, 61, [.string e.key, .int .i64 e.c, .int .i64 e.n, .string e.val, .bool e.dead])] := st2
  refine RP_e rfl (ef_box st2 rfl rfl) ?_
  rintro _ w5 ⟨g8, rfl, hg8, hg8', st6, hx7⟩
  replace st6 : St [] w w5 [(g8, 61, [.string f.key, .int .i64 f.c, .int .i64 f.n, .string f.val, .bool f.dead]), (g4, 61, [.string e.key, .int .i64 e.c, .int .i64 e.n, .string e.val, .bool e.dead])] := st6
  let a9 : Value := .pointer (some ⟨g4, 0, none⟩)
  let a10 : Value := .pointer (some ⟨g8, 0, none⟩)
  refine RP_sg 1 [.p (.bool false)] [(2, a9), (3, a10)] trivial ?_
  refine RP_nil <| n_then <| W_seq <| W_region ?_
  let a11 : Value := .agg #[.int .i64 e.c, .int .i64 e.n]
  let a12 : Value := .agg #[.int .i64 f.c, .int .i64 f.n]
  refine RP_sg 4 [.p (.pointer (some ⟨g4, 1, none⟩)), .l 59 (.pointer (some ⟨g4, 1, none⟩)) a11, .p (.pointer (some ⟨g8, 1, none⟩)), .l 59 (.pointer (some ⟨g8, 1, none⟩)) a12] [(6, a11), (8, a12)] ⟨ldN st6 agg_59 1 rfl rfl rfl, ldN st6 agg_59 0 rfl rfl rfl, trivial⟩ ?_
  refine RP_e rfl (ef_call (k := 113) (args := [a11, a12]) (itemCompare_cr _ _ _ _ _) body_113 (by kernel_rfl)) ?_
  rintro _ w13 ⟨_, rfl, rfl, hx15⟩
  have st14 := st6.call0 hx15
  refine RP_sg 2 [.p (.bool (decide ((vcmp e.c e.n f.c f.n) > 0))), .p (.bool (decide ((vcmp e.c e.n f.c f.n) > 0)))] [(4, .bool (decide ((vcmp e.c e.n f.c f.n) > 0)))] trivial ?_
  refine RP_nil <| n_then <| W_ret <| ret_of (P := Tryd.prog) (fn := Tryd.f66) (m := [(4, .bool (decide ((vcmp e.c e.n f.c f.n) > 0)))]) (w := w13) (res1 rfl (rv_tmp rfl)) ?_
  exact ⟨rfl, st14.ext⟩
theorem refcmp_eq (c n d k : Int) : cond (decide (c > d)) 1 (cond (decide (c < d)) (-1) (cond (decide (n > k)) 1 (cond (decide (n < k)) (-1) 0))) = vcmp c n d k := by
  unfold vcmp cmpI
  rcases Int.lt_trichotomy c d with h | h | h
  · rw [decide_eq_false (show ¬ c > d by omega), decide_eq_true h]; rfl
  · subst h
    have hc : decide (c < c) = false := decide_eq_false (by omega)
    rcases Int.lt_trichotomy n k with h | h | h
    · simp [hc, decide_eq_false (show ¬ k < n by omega), decide_eq_true h]
    · subst h
      have hn : decide (n < n) = false := decide_eq_false (by omega)
      simp [hc, hn]
    · simp [hc, decide_eq_true (show k < n by omega), decide_eq_false (show ¬ n < k by omega)]
  · rw [decide_eq_true (show c > d by omega), decide_eq_false (show ¬ c < d by omega)]; rfl
theorem ref03cmp_cr (c n d k : Int) (w : World) : CR Tryd.prog 109 [.agg #[.int .i64 c, .int .i64 n], .agg #[.int .i64 d, .int .i64 k]] w fun v w' => v = .int .i64 (vcmp c n d k) ∧ Ext [] w w' := by
  have st := St.init w []
  rw [← refcmp_eq]
  refine CR_enter Tryd.func109 rfl Tryd.ntmps109 rfl ?_
  refine W_seq <| W_region <| RP_e rfl (ef_box st rfl rfl) ?_
  rintro _ w1 ⟨g4, rfl, hg4, hg4', st2, hx3⟩
  replace st2 : St [] w w1 [(g4, 59, [.int .i64 c, .int .i64 n])] := st2
  refine RP_e rfl (ef_box st2 rfl rfl) ?_
  rintro _ w5 ⟨g8, rfl, hg8, hg8', st6, hx7⟩
  replace st6 : St [] w w5 [(g8, 59, [.int .i64 d, .int .i64 k]), (g4, 59, [.int .i64 c, .int .i64 n])] := st6
  let a9 : Value := .pointer (some ⟨g4, 0, none⟩)
  let a10 : Value := .pointer (some ⟨g8, 0, none⟩)
  refine RP_sg 1 [.p (.int .i64 0)] [(2, a9), (3, a10)] trivial ?_
  refine RP_nil <| n_then <| W_seq <| W_block <| W_seq <| W_region <| RP_sg 6 [.p a9, .l 3 a9 (.int .i64 c), .p a10, .l 3 a10 (.int .i64 d), .p (.bool (decide (c > d))), .p (.bool (decide (c > d)))] [(2, a9), (3, a10), (5, .bool (decide (c > d)))] ⟨ld1 st6 nagg_3 1 rfl rfl, ld1 st6 nagg_3 0 rfl rfl, trivial⟩ ?_
  refine RP_nil <| n_then <| W_cond rfl (fun c5_11 => ?_) (fun c5_11 => ?_)
  ·
   have c5_11p := of_decide_eq_true c5_11
   refine W_seq <| W_region <| RP_sg 1 [.p (.int .i64 1)] [(4, .int .i64 1)] trivial ?_
   refine RP_nil <| n_then <| W_ret <| r_block <| r_then ?_
   refine ret_of (P := Tryd.prog) (fn := Tryd.f109) (m := [(4, .int .i64 1)]) (w := w5) (res1 rfl (rv_tmp rfl)) ?_
   exact ⟨by (try rw [c5_11]); rfl, st6.ext⟩
  ·
   have c5_11p := of_decide_eq_false c5_11
   refine W_seq <| W_region <| RP_sg 6 [.p a9, .l 3 a9 (.int .i64 c), .p a10, .l 3 a10 (.int .i64 d), .p (.bool (decide (c < d))), .p (.bool (decide (c < d)))] [(2, a9), (3, a10), (11, .bool (decide (c < d)))] ⟨ld1 st6 nagg_3 1 rfl rfl, ld1 st6 nagg_3 0 rfl rfl, trivial⟩ ?_
   refine RP_nil <| n_then <| W_cond rfl (fun c11_12 => ?_) (fun c11_12 => ?_)
   ·
    have c11_12p := of_decide_eq_true c11_12
    refine W_seq <| W_region <| RP_sg 1 [.p (.int .i64 (-1))] [(4, .int .i64 (-1))] trivial ?_
    refine RP_nil <| n_then <| W_ret <| r_block <| r_then ?_
    refine ret_of (P := Tryd.prog) (fn := Tryd.f109) (m := [(4, .int .i64 (-1))]) (w := w5) (res1 rfl (rv_tmp rfl)) ?_
    exact ⟨by (try rw [c5_11]); (try rw [c11_12]); rfl, st6.ext⟩
   ·
    have c11_12p := of_decide_eq_false c11_12
    refine W_seq <| W_region <| RP_sg 6 [.p (.pointer (some ⟨g4, 1, none⟩)), .l 3 (.pointer (some ⟨g4, 1, none⟩)) (.int .i64 n), .p (.pointer (some ⟨g8, 1, none⟩)), .l 3 (.pointer (some ⟨g8, 1, none⟩)) (.int .i64 k), .p (.bool (decide (n > k))), .p (.bool (decide (n > k)))] [(2, a9), (3, a10), (17, .bool (decide (n > k)))] ⟨ld1 st6 nagg_3 1 rfl rfl, ld1 st6 nagg_3 0 rfl rfl, trivial⟩ ?_
    refine RP_nil <| n_then <| W_cond rfl (fun c17_13 => ?_) (fun c17_13 => ?_)
    ·
     have c17_13p := of_decide_eq_true c17_13
     refine W_seq <| W_region <| RP_sg 1 [.p (.int .i64 1)] [(4, .int .i64 1)] trivial ?_
     refine RP_nil <| n_then <| W_ret <| r_block <| r_then ?_
     refine ret_of (P := Tryd.prog) (fn := Tryd.f109) (m := [(4, .int .i64 1)]) (w := w5) (res1 rfl (rv_tmp rfl)) ?_
     exact ⟨by (try rw [c5_11]); (try rw [c11_12]); (try rw [c17_13]); rfl, st6.ext⟩
    ·
     have c17_13p := of_decide_eq_false c17_13
     refine W_seq <| W_region <| RP_sg 6 [.p (.pointer (some ⟨g4, 1, none⟩)), .l 3 (.pointer (some ⟨g4, 1, none⟩)) (.int .i64 n), .p (.pointer (some ⟨g8, 1, none⟩)), .l 3 (.pointer (some ⟨g8, 1, none⟩)) (.int .i64 k), .p (.bool (decide (n < k))), .p (.bool (decide (n < k)))] [(23, .bool (decide (n < k)))] ⟨ld1 st6 nagg_3 1 rfl rfl, ld1 st6 nagg_3 0 rfl rfl, trivial⟩ ?_
     refine RP_nil <| n_then <| W_cond rfl (fun c23_14 => ?_) (fun c23_14 => ?_)
     ·
      have c23_14p := of_decide_eq_true c23_14
      refine W_seq <| W_region <| RP_sg 1 [.p (.int .i64 (-1))] [(4, .int .i64 (-1))] trivial ?_
      refine RP_nil <| n_then <| W_ret <| r_block <| r_then ?_
      refine ret_of (P := Tryd.prog) (fn := Tryd.f109) (m := [(4, .int .i64 (-1))]) (w := w5) (res1 rfl (rv_tmp rfl)) ?_
      exact ⟨by (try rw [c5_11]); (try rw [c11_12]); (try rw [c17_13]); (try rw [c23_14]); rfl, st6.ext⟩
     ·
      have c23_14p := of_decide_eq_false c23_14
      refine W_skip <| n_block <| n_then <| W_seq <| W_region <| RP_sg 1 [.p (.int .i64 0)] [(4, .int .i64 0)] trivial ?_
      refine RP_nil <| n_then <| W_ret <| ret_of (P := Tryd.prog) (fn := Tryd.f109) (m := [(4, .int .i64 0)]) (w := w5) (res1 rfl (rv_tmp rfl)) ?_
      exact ⟨by (try rw [c5_11]); (try rw [c11_12]); (try rw [c17_13]); (try rw [c23_14]); rfl, st6.ext⟩
theorem ref03newer_cr (e f : Ent) (w : World) : CR Tryd.prog 55 [e.v, f.v] w fun v w' => v = .bool (newer e f) ∧ Ext [] w w' := by
  have st := St.init w []
  refine CR_enter Tryd.func55 rfl Tryd.ntmps55 rfl ?_
  refine W_seq <| W_region <| RP_e rfl (ef_box st rfl rfl) ?_
  rintro _ w1 ⟨g4, rfl, hg4, hg4', st2, hx3⟩
  replace st2 : St [] w w1 [(g4, 61, [.string e.key, .int .i64 e.c, .int .i64 e.n, .string e.val, .bool e.dead])] := st2
  refine RP_e rfl (ef_box st2 rfl rfl) ?_
  rintro _ w5 ⟨g8, rfl, hg8, hg8', st6, hx7⟩
  replace st6 : St [] w w5 [(g8, 61, [.string f.key, .int .i64 f.c, .int .i64 f.n, .string f.val, .bool f.dead]), (g4, 61, [.string e.key, .int .i64 e.c, .int .i64 e.n, .string e.val, .bool e.dead])] := st6
  let a9 : Value := .pointer (some ⟨g4, 0, none⟩)
  let a10 : Value := .pointer (some ⟨g8, 0, none⟩)
  refine RP_sg 1 [.p (.bool false)] [(2, a9), (3, a10)] trivial ?_
  refine RP_nil <| n_then <| W_seq <| W_region ?_
  let a11 : Value := .agg #[.int .i64 e.c, .int .i64 e.n]
  let a12 : Value := .agg #[.int .i64 f.c, .int .i64 f.n]
  refine RP_sg 4 [.p (.pointer (some ⟨g4, 1, none⟩)), .l 59 (.pointer (some ⟨g4, 1, none⟩)) a11, .p (.pointer (some ⟨g8, 1, none⟩)), .l 59 (.pointer (some ⟨g8, 1, none⟩)) a12] [(6, a11), (8, a12)] ⟨ldN st6 agg_59 1 rfl rfl rfl, ldN st6 agg_59 0 rfl rfl rfl, trivial⟩ ?_
  refine RP_e rfl (ef_call (k := 109) (args := [a11, a12]) (ref03cmp_cr _ _ _ _ _) body_109 (by kernel_rfl)) ?_
  rintro _ w13 ⟨_, rfl, rfl, hx15⟩
  have st14 := st6.call0 hx15
  refine RP_sg 2 [.p (.bool (decide ((vcmp e.c e.n f.c f.n) > 0))), .p (.bool (decide ((vcmp e.c e.n f.c f.n) > 0)))] [(4, .bool (decide ((vcmp e.c e.n f.c f.n) > 0)))] trivial ?_
  refine RP_nil <| n_then <| W_ret <| ret_of (P := Tryd.prog) (fn := Tryd.f55) (m := [(4, .bool (decide ((vcmp e.c e.n f.c f.n) > 0)))]) (w := w13) (res1 rfl (rv_tmp rfl)) ?_
  exact ⟨rfl, st14.ext⟩
def best (e f : Ent) : Ent := cond (newer f e) f e
theorem ref03best_cr (e f : Ent) (w : World) : CR Tryd.prog 56 [e.v, f.v] w fun v w' => v = (best e f).v ∧ Ext [] w w' := by
  have st := St.init w []
  unfold best
  refine CR_enter Tryd.func56 rfl Tryd.ntmps56 rfl ?_
  refine W_seq <| W_region <| RP_e rfl (ef_box st rfl rfl) ?_
  rintro _ w1 ⟨g4, rfl, hg4, hg4', st2, hx3⟩
  replace st2 : St [] w w1 [(g4, 61, [.string e.key, .int .i64 e.c, .int .i64 e.n, .string e.val, .bool e.dead])] := st2
  refine RP_e rfl (ef_box st2 rfl rfl) ?_
  rintro _ w5 ⟨g8, rfl, hg8, hg8', st6, hx7⟩
  replace st6 : St [] w w5 [(g8, 61, [.string f.key, .int .i64 f.c, .int .i64 f.n, .string f.val, .bool f.dead]), (g4, 61, [.string e.key, .int .i64 e.c, .int .i64 e.n, .string e.val, .bool e.dead])] := st6
  refine RP_e rfl (ef_alloc st6 zero_61 rfl) ?_
  rintro _ w9 ⟨g12, rfl, hg12, hg12', st10, hx11⟩
  replace st10 : St [] w w9 [(g12, 61, [.string (⟨#[]⟩ : ByteArray), .int .i64 0, .int .i64 0, .string (⟨#[]⟩ : ByteArray), .bool false]), (g8, 61, [.string f.key, .int .i64 f.c, .int .i64 f.n, .string f.val, .bool f.dead]), (g4, 61, [.string e.key, .int .i64 e.c, .int .i64 e.n, .string e.val, .bool e.dead])] := st10
  let a13 : Value := .pointer (some ⟨g4, 0, none⟩)
  let a14 : Value := .pointer (some ⟨g8, 0, none⟩)
  let a15 : Value := .pointer (some ⟨g12, 0, none⟩)
  refine RP_pk [(2, a13), (3, a14), (4, a15)] ?_
  refine RP_nil <| n_then <| W_seq <| W_seq <| W_region ?_
  let a16 : Value := .agg #[.string f.key, .int .i64 f.c, .int .i64 f.n, .string f.val, .bool f.dead]
  let a17 : Value := .agg #[.string e.key, .int .i64 e.c, .int .i64 e.n, .string e.val, .bool e.dead]
  refine RP_sg 2 [.l 61 a14 a16, .l 61 a13 a17] [(2, a13), (3, a14), (4, a15), (5, a16), (6, a17)] ⟨ldN st10 agg_61 1 rfl rfl rfl, ldN st10 agg_61 2 rfl rfl rfl, trivial⟩ ?_
  refine RP_e rfl (ef_call (k := 55) (args := [a16, a17]) (ref03newer_cr f e _) body_55 (by kernel_rfl)) ?_
  rintro _ w18 ⟨_, rfl, rfl, hx20⟩
  have st19 := st10.call0 hx20
  refine RP_pk [(2, a13), (3, a14), (4, a15), (7, .bool (newer f e))] ?_
  refine RP_nil <| n_then <| W_cond rfl (fun c7_21 => ?_) (fun c7_21 => ?_)
  ·
   refine W_seq <| W_region <| RP_sg 1 [.l 61 a14 a16] [(4, a15), (8, a16)] ⟨ldN st19 agg_61 1 rfl rfl rfl, trivial⟩ ?_
   refine RP_e rfl (ef_store st19 rfl rfl rfl size_61 0 rfl rfl rfl rfl (.inr hg12)) ?_
   rintro _ w22 ⟨rfl, st23, hx24⟩
   replace st23 : St [] w w22 [(g12, 61, [.string f.key, .int .i64 f.c, .int .i64 f.n, .string f.val, .bool f.dead]), (g8, 61, [.string f.key, .int .i64 f.c, .int .i64 f.n, .string f.val, .bool f.dead]), (g4, 61, [.string e.key, .int .i64 e.c, .int .i64 e.n, .string e.val, .bool e.dead])] := st23
   refine RP_pk [(4, a15)] ?_
   refine RP_nil <| n_then <| W_ret <| r_then ?_
   refine ret_of (P := Tryd.prog) (fn := Tryd.f56) (m := [(4, .pointer (some ⟨g12, 0, none⟩))]) (w := w22) (res1 rfl (rv_cell rfl (by simpa [Instr.loadAt, Instr.sureAddr] using (ldN st23 agg_61 0 rfl rfl rfl)))) ?_
   exact ⟨by (try rw [c7_21]); rfl, st23.ext⟩
  ·
   refine W_skip <| n_then <| W_seq <| W_region <| RP_sg 1 [.l 61 a13 a17] [(4, a15), (9, a17)] ⟨ldN st19 agg_61 2 rfl rfl rfl, trivial⟩ ?_
   refine RP_e rfl (ef_store st19 rfl rfl rfl size_61 0 rfl rfl rfl rfl (.inr hg12)) ?_
   rintro _ w25 ⟨rfl, st26, hx27⟩
   replace st26 : St [] w w25 [(g12, 61, [.string e.key, .int .i64 e.c, .int .i64 e.n, .string e.val, .bool e.dead]), (g8, 61, [.string f.key, .int .i64 f.c, .int .i64 f.n, .string f.val, .bool f.dead]), (g4, 61, [.string e.key, .int .i64 e.c, .int .i64 e.n, .string e.val, .bool e.dead])] := st26
   refine RP_pk [(4, a15)] ?_
   refine RP_nil <| n_then <| W_ret <| ret_of (P := Tryd.prog) (fn := Tryd.f56) (m := [(4, .pointer (some ⟨g12, 0, none⟩))]) (w := w25) (res1 rfl (rv_cell rfl (by simpa [Instr.loadAt, Instr.sureAddr] using (ldN st26 agg_61 0 rfl rfl rfl)))) ?_
   exact ⟨by (try rw [c7_21]); rfl, st26.ext⟩
theorem eqVer (c n d k : Int) : EqB Tryd.prog 59 3 (.agg #[.int .i64 c, .int .i64 n]) (.agg #[.int .i64 d, .int .i64 k]) (c == d && n == k) := by
  have hu : (Tryd.prog).underlying 59 = some (.struct #[⟨"Counter", 3, 0, false, "", "", 0⟩, ⟨"Node", 3, 1, false, "", "", 8⟩]) := by kernel_rfl
  have hk : (Tryd.prog).underlying 3 = some (.int .i64) := by kernel_rfl
  refine eqA hu (by kernel_rfl) fun q w => ?_
  have p0 : ∀ (x y : Int) (w : World), (part 3 #[.int .i64 x, .int .i64 y] 0).run Tryd.prog w = .ok (.int .i64 x) w := fun x y w => by kernel_rfl
  have p1 : ∀ (x y : Int) (w : World), (part 3 #[.int .i64 x, .int .i64 y] 1).run Tryd.prog w = .ok (.int .i64 y) w := fun x y w => by kernel_rfl
  exact eqf_cons rfl (p0 _ _ w) (p0 _ _ w) ((eqI hk).up 1 q w) (eqf_last rfl (p1 _ _ w) (p1 _ _ w) ((eqI hk).up 1 q w))
theorem there_cr (e : Ent) (w : World) : CR Tryd.prog 139 [e.v] w fun v w' => v = .bool (there e) ∧ Ext [] w w' := by
  have st := St.init w []
  refine CR_enter Tryd.func139 rfl Tryd.ntmps139 rfl ?_
  refine W_seq <| W_region <| RP_e rfl (ef_box st rfl rfl) ?_
  rintro _ w1 ⟨g4, rfl, hg4, hg4', st2, hx3⟩
  replace st2 : St [] w w1 [(g4, 61, [.string e.key, .int .i64 e.c, .int .i64 e.n, .string e.val, .bool e.dead])] := st2
  let a5 : Value := .pointer (some ⟨g4, 0, none⟩)
  refine RP_sg 1 [.p (.bool false)] [(1, a5)] trivial ?_
  refine RP_nil <| n_then <| W_seq <| W_region ?_
  let a6 : Value := .agg #[.int .i64 e.c, .int .i64 e.n]
  let a7 : Value := .agg #[.int .i64 0, .int .i64 0]
  refine RP_sg 3 [.p (.pointer (some ⟨g4, 1, none⟩)), .l 59 (.pointer (some ⟨g4, 1, none⟩)) a6, .p a7] [(4, a6), (5, a7)] ⟨ldN st2 agg_59 0 rfl rfl rfl, trivial⟩ ?_
  refine RP_q rfl (v := .bool (there e)) (ev_neq (eqVer e.c e.n 0 0) (by decide) (by kernel_rfl) rfl rfl) ?_
  refine RP_sg 1 [.p (.bool (there e))] [(2, .bool (there e))] trivial ?_
  refine RP_nil <| n_then <| W_ret <| ret_of (P := Tryd.prog) (fn := Tryd.f139) (m := [(2, .bool (there e))]) (w := w1) (res1 rfl (rv_tmp rfl)) ?_
  exact ⟨rfl, st2.ext⟩
def rnone (e : Ent) : Bool := e.c == 0
theorem ref09none_cr (e : Ent) (w : World) : CR Tryd.prog 54 [e.v] w fun v w' => v = .bool (rnone e) ∧ Ext [] w w' := by
  have st := St.init w []
  refine CR_enter Tryd.func54 rfl Tryd.ntmps54 rfl ?_
  refine W_seq <| W_region <| RP_e rfl (ef_box st rfl rfl) ?_
  rintro _ w1 ⟨g4, rfl, hg4, hg4', st2, hx3⟩
  replace st2 : St [] w w1 [(g4, 61, [.string e.key, .int .i64 e.c, .int .i64 e.n, .string e.val, .bool e.dead])] := st2
  let a5 : Value := .pointer (some ⟨g4, 0, none⟩)
  refine RP_sg 1 [.p (.bool false)] [(1, a5)] trivial ?_
  refine RP_nil <| n_then <| W_seq <| W_region <| RP_sg 5 [.p (.pointer (some ⟨g4, 1, none⟩)), .p (.pointer (some ⟨g4, 1, none⟩)), .l 3 (.pointer (some ⟨g4, 1, none⟩)) (.int .i64 e.c), .p (.bool (e.c == 0)), .p (.bool (e.c == 0))] [(2, .bool (e.c == 0))] ⟨ld1 st2 nagg_3 0 rfl rfl, trivial⟩ ?_
  refine RP_nil <| n_then <| W_ret <| ret_of (P := Tryd.prog) (fn := Tryd.f54) (m := [(2, .bool (e.c == 0))]) (w := w1) (res1 rfl (rv_tmp rfl)) ?_
  exact ⟨rfl, st2.ext⟩
end Go.Proofs.YtcopemgkjbaaeaaDoor
