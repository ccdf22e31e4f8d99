import Derived.Test.YtcopemgkjbaaeaaDoorMm2
import Derived.Laws.StructEq
import Derived.ChangeKeysEq
namespace Go.Proofs.YtcopemgkjbaaeaaDoor
set_option linter.all false
open Go.RowKit
def okE (clock : Int) (p : Option Ent) (e : Ent) : Int := cond (e.check != 0) e.check (cond (match p with | some q => !(Op.bytesLess q.key.toList e.key.toList) | none => false) 90 (cond (decide (e.c > clock)) 30 0))
def loadE (clock : Int) : Option Ent → List Ent → Int
  | _, [] => 0
  | p, e :: l => cond (okE clock p e != 0) (okE clock p e) (loadE clock (some e) l)
def prevE (l : List Ent) (i : Nat) : Option Ent := if i = 0 then none else l[i - 1]?
theorem loadE_drop (clock : Int) (l : List Ent) {i : Nat} {e : Ent} (he : l[i]? = some e) : loadE clock (prevE l i) (l.drop i) = cond (okE clock (prevE l i) e != 0) (okE clock (prevE l i) e) (loadE clock (prevE l (i + 1)) (l.drop (i + 1))) := by
  obtain ⟨h1, h2⟩ := List.getElem?_eq_some_iff.1 he
  rw [List.drop_eq_getElem_cons h1, h2, loadE]
  congr 2
  simp [prevE, he]
def T.load (l : List Ent) : T := l.foldl (fun t e => T.put e t) .nil
theorem T.load_succ {l : List Ent} {i : Nat} {e : Ent} (he : l[i]? = some e) : T.load (l.take (i + 1)) = T.put e (T.load (l.take i)) := by
  unfold T.load
  rw [List.take_succ, he]; simp
theorem T.load_size (l : List Ent) : (T.load l).size ≤ l.length := by
  suffices h : ∀ (l : List Ent) (t : T), (l.foldl (fun t e => T.put e t) t).size ≤ t.size + l.length by simpa [T.load, T.size] using h l .nil
  intro l
  induction l with
  | nil => intro t; simp
  | cons e l ih => intro t; have := ih (T.put e t); have := T.put_size e t; simp only [List.foldl_cons, List.length_cons]; omega
def loadErr (node clock : Int) (l : List Ent) : Int :=
  cond (decide (node < 0)) 1 (cond (decide (node ≥ 8)) 1 (cond (decide (clock < 0)) 1 (cond (decide (clock > 1099511627776)) 1 (cond (decide (((l.length : Nat) : Int) > 256)) 80 (loadE clock none l)))))
theorem load_cr {w : World} {b : Option Addr} {c : Nat} {L : List Ent} (node clock : Int) (hl : Lanes w) (hin : InS w b (entCells L)) :
    CR Tryd.prog 42 [.int .i64 node, .int .i64 clock, .slice b L.length c] w fun v w' => ∃ u, v = .tuple #[u, .int .i64 (loadErr node clock L)] ∧ Ext [] w w' ∧ (loadErr node clock L ≠ 0 → u = .pointer none) ∧
      (loadErr node clock L = 0 → ∃ gs bm bt p j, u = .pointer (some ⟨gs, 0, none⟩) ∧ Sto w' gs bm bt p node clock j (T.load L) ∧ w.heap.size ≤ gs ∧ w.heap.size ≤ bm ∧ w.heap.size ≤ bt) := by
  have st := St.init w []
  unfold loadErr
  refine CR_enter Tryd.func42 rfl Tryd.ntmps42 rfl ?_
  refine W_seq <| W_region ?_
  let a1 : Value := .slice b L.length c
  refine RP_sg 2 [.p (.pointer none), .p (.int .i64 0)] [(0, .int .i64 node), (1, .int .i64 clock), (2, a1)] trivial ?_
  refine RP_nil <| n_then <| W_seq <| W_block <| W_seq <| W_seq <| W_region <| RP_sg 3 [.p (.int .i64 node), .p (.bool (decide (node < 0))), .p (.bool (decide (node < 0)))] [(0, .int .i64 node), (1, .int .i64 clock), (2, a1), (12, .bool (decide (node < 0)))] trivial ?_
  refine RP_nil <| n_then <| W_cond rfl (fun c12_2 => ?_) (fun c12_2 => ?_)
  ·
   have c12_2p := of_decide_eq_true c12_2
   refine W_skip <| n_then <| W_true' rfl c12_2 ?_
   refine W_seq <| W_region <| RP_sg 2 [.p (.pointer none), .p (.int .i64 1)] [(6, .pointer none), (7, .int .i64 1)] trivial ?_
   refine RP_nil <| n_then <| W_ret <| r_block <| r_then ?_
   refine ret_of (P := Tryd.prog) (fn := Tryd.f42) (m := [(6, .pointer none), (7, .int .i64 1)]) (w := w) (res2 rfl (rv_tmp rfl) (rv_tmp rfl)) ?_
   exact ⟨_, by (try rw [c12_2]); rfl, st.ext, fun _ => rfl, fun h => absurd h (by (try rw [c12_2]); exact (by decide : (1 : Int) ≠ 0))⟩
  ·
   have c12_2p := of_decide_eq_false c12_2
   refine W_seq <| W_region <| RP_sg 3 [.p (.int .i64 node), .p (.bool (decide (node ≥ 8))), .p (.bool (decide (node ≥ 8)))] [(0, .int .i64 node), (1, .int .i64 clock), (2, a1), (12, .bool (decide (node ≥ 8)))] trivial ?_
   refine RP_nil <| n_then <| W_cond rfl (fun c12_3 => ?_) (fun c12_3 => ?_)
   ·
    have c12_3p := of_decide_eq_true c12_3
    refine W_skip <| n_then <| W_true' rfl c12_3 ?_
    refine W_seq <| W_region <| RP_sg 2 [.p (.pointer none), .p (.int .i64 1)] [(6, .pointer none), (7, .int .i64 1)] trivial ?_
    refine RP_nil <| n_then <| W_ret <| r_block <| r_then ?_
    refine ret_of (P := Tryd.prog) (fn := Tryd.f42) (m := [(6, .pointer none), (7, .int .i64 1)]) (w := w) (res2 rfl (rv_tmp rfl) (rv_tmp rfl)) ?_
    exact ⟨_, by (try rw [c12_2]); (try rw [c12_3]); rfl, st.ext, fun _ => rfl, fun h => absurd h (by (try rw [c12_2]); (try rw [c12_3]); exact (by decide : (1 : Int) ≠ 0))⟩
   ·
    have c12_3p := of_decide_eq_false c12_3
    refine W_seq <| W_region <| RP_sg 3 [.p (.int .i64 clock), .p (.bool (decide (clock < 0))), .p (.bool (decide (clock < 0)))] [(0, .int .i64 node), (1, .int .i64 clock), (2, a1), (12, .bool (decide (clock < 0)))] trivial ?_
    refine RP_nil <| n_then <| W_cond rfl (fun c12_4 => ?_) (fun c12_4 => ?_)
    ·
     have c12_4p := of_decide_eq_true c12_4
     refine W_skip <| n_then <| W_true' rfl c12_4 ?_
     refine W_seq <| W_region <| RP_sg 2 [.p (.pointer none), .p (.int .i64 1)] [(6, .pointer none), (7, .int .i64 1)] trivial ?_
     refine RP_nil <| n_then <| W_ret <| r_block <| r_then ?_
     refine ret_of (P := Tryd.prog) (fn := Tryd.f42) (m := [(6, .pointer none), (7, .int .i64 1)]) (w := w) (res2 rfl (rv_tmp rfl) (rv_tmp rfl)) ?_
     exact ⟨_, by (try rw [c12_2]); (try rw [c12_3]); (try rw [c12_4]); rfl, st.ext, fun _ => rfl, fun h => absurd h (by (try rw [c12_2]); (try rw [c12_3]); (try rw [c12_4]); exact (by decide : (1 : Int) ≠ 0))⟩
    ·
     have c12_4p := of_decide_eq_false c12_4
     refine W_region <| RP_sg 3 [.p (.int .i64 clock), .p (.bool (decide (clock > 1099511627776))), .p (.bool (decide (clock > 1099511627776)))] [(0, .int .i64 node), (1, .int .i64 clock), (2, a1), (12, .bool (decide (clock > 1099511627776)))] trivial ?_
     refine RP_nil <| n_then <| W_cond rfl (fun c12_5 => ?_) (fun c12_5 => ?_)
     ·
      have c12_5p := of_decide_eq_true c12_5
      refine W_seq <| W_region <| RP_sg 2 [.p (.pointer none), .p (.int .i64 1)] [(6, .pointer none), (7, .int .i64 1)] trivial ?_
      refine RP_nil <| n_then <| W_ret <| r_block <| r_then ?_
      refine ret_of (P := Tryd.prog) (fn := Tryd.f42) (m := [(6, .pointer none), (7, .int .i64 1)]) (w := w) (res2 rfl (rv_tmp rfl) (rv_tmp rfl)) ?_
      exact ⟨_, by (try rw [c12_2]); (try rw [c12_3]); (try rw [c12_4]); (try rw [c12_5]); rfl, st.ext, fun _ => rfl, fun h => absurd h (by (try rw [c12_2]); (try rw [c12_3]); (try rw [c12_4]); (try rw [c12_5]); exact (by decide : (1 : Int) ≠ 0))⟩
     ·
      have c12_5p := of_decide_eq_false c12_5
      refine W_seq <| W_region <| RP_sg 4 [.p a1, .p (.int .i64 ((L.length : Nat) : Int)), .p (.bool (decide (((L.length : Nat) : Int) > 256))), .p (.bool (decide (((L.length : Nat) : Int) > 256)))] [(0, .int .i64 node), (1, .int .i64 clock), (2, a1), (21, .bool (decide (((L.length : Nat) : Int) > 256)))] trivial ?_
      refine RP_nil <| n_then <| W_cond rfl (fun c21_6 => ?_) (fun c21_6 => ?_)
      ·
       have c21_6p := of_decide_eq_true c21_6
       refine W_seq <| W_region <| RP_sg 2 [.p (.pointer none), .p (.int .i64 80)] [(6, .pointer none), (7, .int .i64 80)] trivial ?_
       refine RP_nil <| n_then <| W_ret <| r_block <| r_then ?_
       refine ret_of (P := Tryd.prog) (fn := Tryd.f42) (m := [(6, .pointer none), (7, .int .i64 80)]) (w := w) (res2 rfl (rv_tmp rfl) (rv_tmp rfl)) ?_
       exact ⟨_, by (try rw [c12_2]); (try rw [c12_3]); (try rw [c12_4]); (try rw [c12_5]); (try rw [c21_6]); rfl, st.ext, fun _ => rfl, fun h => absurd h (by (try rw [c12_2]); (try rw [c12_3]); (try rw [c12_4]); (try rw [c12_5]); (try rw [c21_6]); exact (by decide : (80 : Int) ≠ 0))⟩
      ·
       have c21_6p := of_decide_eq_false c21_6
       refine W_skip <| n_block <| n_then <| W_seq <| W_region <| RP_sg 2 [.p (.int .i64 node), .p (.int .i64 clock)] [(1, .int .i64 clock), (2, a1), (25, .int .i64 node), (26, .int .i64 clock)] trivial ?_
       refine RP_e rfl (ef_call (k := 99) (args := []) (newMeter_cr _) body_99 (by kernel_rfl)) ?_
       rintro _ w7 ⟨_, rfl, bm, rfl, hbm, hmb, hx9⟩
       have st8 := st.call0 hx9
       replace hbm : w.heap.size ≤ bm := Nat.le_trans st.ext.size hbm
       let a10 : Value := .agg #[.int .i64 node, .int .i64 clock, .pointer (some ⟨bm, 0, none⟩), .pointer none]
       refine RP_sg 1 [.p a10] [(1, .int .i64 clock), (2, a1), (28, a10)] trivial ?_
       refine RP_e rfl (ef_box st8 rfl rfl) ?_
       rintro _ w11 ⟨gs, rfl, hgs, hgs', st12, hx13⟩
       replace st12 : St [] w w11 [(gs, 129, [.int .i64 node, .int .i64 clock, .pointer (some ⟨bm, 0, none⟩), .pointer none])] := st12
       replace hmb := Blk.ext hmb hx13 (by simp)
       let a14 : Value := .pointer (some ⟨gs, 0, none⟩)
       refine RP_sg 1 [.p a14] [(1, .int .i64 clock), (2, a1), (8, a14)] trivial ?_
       refine RP_nil <| n_then <| W_seq <| W_region ?_
       let a15 : Value := .agg #[.int .i64 0, .int .u64 0, .int .u64 0]
       let a16 : Value := .func (.func 101) #[.pointer (some ⟨bm, 0, none⟩)] #[]
       refine RP_sg 7 [.p a14, .p a15, .p a14, .p a14, .p (.pointer (some ⟨gs, 2, none⟩)), .l 126 (.pointer (some ⟨gs, 2, none⟩)) (.pointer (some ⟨bm, 0, none⟩)), .p a16] [(1, .int .i64 clock), (2, a1), (8, a14), (30, a14), (31, a15), (36, a16)] ⟨ld1 st12 nagg_126 0 rfl rfl, trivial⟩ ?_
       refine RP_e rfl (ef_call (k := 100) (args := [a15, a16]) (newTree_cr _ bm) body_100 (by kernel_rfl)) ?_
       rintro _ w17 ⟨_, rfl, bt, rfl, hbt, htb, hx19⟩
       have st18 := st12.call0 hx19
       replace hmb := Blk.ext hmb hx19 (by simp)
       replace hbt : w.heap.size ≤ bt := Nat.le_trans st12.ext.size hbt
       have hTr : Tr w17 bt bm 0 none := ⟨htb, hmb⟩
       let a20 : Value := .pointer (some ⟨bt, 0, none⟩)
       let a21 : Value := .pointer (some ⟨gs, 3, none⟩)
       refine RP_sg 2 [.p a14, .p a21] [(1, .int .i64 clock), (2, a1), (8, a14), (37, a20), (39, a21)] trivial ?_
       refine RP_e rfl (ef_store st18 rfl rfl rfl size_127 0 rfl rfl rfl rfl (.inr hgs)) ?_
       rintro _ w22 ⟨rfl, st23, hx24⟩
       replace st23 : St [] w w22 [(gs, 129, [.int .i64 node, .int .i64 clock, .pointer (some ⟨bm, 0, none⟩), .pointer (some ⟨bt, 0, none⟩)])] := st23
       replace hTr := hTr.ext1 hx24 (st18.get 0 rfl) (by decide) (by decide)
       refine RP_pk [(1, .int .i64 clock), (2, a1), (8, a14)] ?_
       refine RP_nil <| n_then <| W_seq <| W_seq <| W_region <| RP_sg 3 [.p a1, .p (.int .i64 ((L.length : Nat) : Int)), .p (.int .i64 0)] [(1, .int .i64 clock), (2, a1), (8, a14), (40, a1), (41, .int .i64 ((L.length : Nat) : Int)), (42, .int .i64 0)] trivial ?_
       refine RP_nil <| n_then <| W_block <| W_loop (fun k_ m_ w_ => ∃ (i : Nat) (p : Option Addr) (jj : Int), L.length - i = k_ ∧ m_ = [(1, .int .i64 clock), (2, a1), (8, a14), (40, a1), (41, .int .i64 ((L.length : Nat) : Int)), (42, .int .i64 ((i : Nat) : Int))] ∧ St [] w w_ [(gs, 129, [.int .i64 node, .int .i64 clock, .pointer (some ⟨bm, 0, none⟩), .pointer (some ⟨bt, 0, none⟩)])] ∧ Tr w_ bt bm jj p ∧ IsT w_ p (T.load (L.take i)) ∧ i ≤ L.length ∧ loadE clock (prevE L i) (L.drop i) = loadE clock none L) ⟨0, none, 0, rfl, rfl, st23, hTr, rfl, Nat.zero_le _, rfl⟩ ?_
       rintro _ _ w26 ⟨i, p, jj, rfl, rfl, st25, hTr, hT, hil, hle⟩
       refine W_seq <| W_region <| RP_sg 1 [.p (.bool (decide (((i : Nat) : Int) < ((L.length : Nat) : Int))))] [(1, .int .i64 clock), (2, a1), (8, a14), (40, a1), (41, .int .i64 ((L.length : Nat) : Int)), (42, .int .i64 ((i : Nat) : Int)), (43, .bool (decide (((i : Nat) : Int) < ((L.length : Nat) : Int))))] trivial ?_
       refine RP_nil <| n_then <| W_seq <| W_cond rfl (fun c43_27 => ?_) (fun c43_27 => ?_)
       ·
        have c43_27p := of_decide_eq_true c43_27
        refine W_skip <| n_then <| W_seq <| W_block <| W_seq <| W_region <| RP_sg 1 [.p (.int .i64 ((i : Nat) : Int))] [(1, .int .i64 clock), (2, a1), (8, a14), (40, a1), (41, .int .i64 ((L.length : Nat) : Int)), (42, .int .i64 ((i : Nat) : Int)), (44, .int .i64 ((i : Nat) : Int))] trivial ?_
        have hlt : i < L.length := by omega
        have hL256 : L.length ≤ 256 := by omega
        obtain ⟨e, he⟩ : ∃ e, L[i]? = some e := ⟨L[i], by simp [hlt]⟩
        have hbs := hin.some_ (by rw [entCells_len]; omega)
        refine RP_q rfl (v := .pointer (some ⟨(sp b), so b + i * 5, none⟩)) (ev_indexI idxEnt rfl rfl hbs hlt) ?_
        let a28 : Value := .agg #[.string e.key, .int .i64 e.c, .int .i64 e.n, .string e.val, .bool e.dead]
        refine RP_sg 1 [.l 61 (.pointer (some ⟨(sp b), so b + i * 5, none⟩)) a28] [(1, .int .i64 clock), (2, a1), (8, a14), (40, a1), (41, .int .i64 ((L.length : Nat) : Int)), (42, .int .i64 ((i : Nat) : Int)), (44, .int .i64 ((i : Nat) : Int)), (46, a28)] ⟨InS.loadN agg_61 (hin.ext0 st25.ext) (entCells_at he) rfl (by decide), trivial⟩ ?_
        refine RP_e rfl (ef_alloc st25 zero_61 rfl) ?_
        rintro _ w29 ⟨g10, rfl, hg10, hg10', st30, hx31⟩
        replace st30 : St [] w w29 [(g10, 61, [.string (⟨#[]⟩ : ByteArray), .int .i64 0, .int .i64 0, .string (⟨#[]⟩ : ByteArray), .bool false]), (gs, 129, [.int .i64 node, .int .i64 clock, .pointer (some ⟨bm, 0, none⟩), .pointer (some ⟨bt, 0, none⟩)])] := st30
        replace hTr := hTr.ext hx31 (by simp)
        replace hT := hT.to hx31 (NoNode.nil _)
        let a32 : Value := .pointer (some ⟨g10, 0, none⟩)
        refine RP_sg 1 [.p (.int .i64 ((i : Nat) : Int))] [(1, .int .i64 clock), (2, a1), (8, a14), (9, .int .i64 ((i : Nat) : Int)), (10, a32), (40, a1), (41, .int .i64 ((L.length : Nat) : Int)), (42, .int .i64 ((i : Nat) : Int)), (46, a28)] trivial ?_
        refine RP_e rfl (ef_store st30 rfl rfl rfl size_61 0 rfl rfl rfl rfl (.inr hg10)) ?_
        rintro _ w33 ⟨rfl, st34, hx35⟩
        replace st34 : St [] w w33 [(g10, 61, [.string e.key, .int .i64 e.c, .int .i64 e.n, .string e.val, .bool e.dead]), (gs, 129, [.int .i64 node, .int .i64 clock, .pointer (some ⟨bm, 0, none⟩), .pointer (some ⟨bt, 0, none⟩)])] := st34
        replace hTr := hTr.ext1 hx35 (st30.get 0 rfl) (by decide) (by decide)
        replace hT := hT.to hx35 (NoNode.one (st30.get 0 rfl) (by decide))
        refine RP_pk [(1, .int .i64 clock), (2, a1), (8, a14), (9, .int .i64 ((i : Nat) : Int)), (10, a32), (40, a1), (41, .int .i64 ((L.length : Nat) : Int)), (42, .int .i64 ((i : Nat) : Int))] ?_
        refine RP_nil <| n_then <| W_seq <| W_seq <| W_region <| RP_sg 1 [.l 61 a32 a28] [(1, .int .i64 clock), (2, a1), (8, a14), (9, .int .i64 ((i : Nat) : Int)), (10, a32), (40, a1), (41, .int .i64 ((L.length : Nat) : Int)), (42, .int .i64 ((i : Nat) : Int)), (47, a28)] ⟨ldN st34 agg_61 0 rfl rfl rfl, trivial⟩ ?_
        refine RP_e rfl (ef_call (k := 63) (args := [a28]) (itemCheck_cr e _) body_63 (by kernel_rfl)) ?_
        rintro _ w36 ⟨_, rfl, rfl, hx38⟩
        have st37 := st34.call0 hx38
        replace hTr := hTr.ext hx38 (by simp)
        replace hT := hT.to hx38 (NoNode.nil _)
        refine RP_sg 1 [.p (.int .i64 e.check)] [(1, .int .i64 clock), (2, a1), (8, a14), (9, .int .i64 ((i : Nat) : Int)), (10, a32), (11, .int .i64 e.check), (40, a1), (41, .int .i64 ((L.length : Nat) : Int)), (42, .int .i64 ((i : Nat) : Int))] trivial ?_
        refine RP_nil <| n_then <| W_block <| W_seq <| W_region <| RP_sg 3 [.p (.int .i64 e.check), .p (.bool (e.check != 0)), .p (.bool (e.check != 0))] [(1, .int .i64 clock), (2, a1), (8, a14), (9, .int .i64 ((i : Nat) : Int)), (10, a32), (11, .int .i64 e.check), (40, a1), (41, .int .i64 ((L.length : Nat) : Int)), (42, .int .i64 ((i : Nat) : Int)), (49, .bool (e.check != 0))] trivial ?_
        refine RP_nil <| n_then <| W_cond rfl (fun c49_39 => ?_) (fun c49_39 => ?_)
        ·
         refine W_seq <| W_region <| RP_sg 3 [.p (.int .i64 e.check), .p (.pointer none), .p (.int .i64 e.check)] [(6, .pointer none), (7, .int .i64 e.check)] trivial ?_
         refine RP_nil <| n_then <| W_ret <| r_block <| r_then <| r_block <| r_then <| r_loop <| r_block <| r_then ?_
         have hok : okE clock (prevE L i) e = e.check := by unfold okE; rw [c49_39]; rfl
         have hnz : (e.check : Int) ≠ 0 := by simpa using c49_39
         have hz : loadE clock none L = e.check := by rw [← hle, loadE_drop clock L he, hok, show ((e.check : Int) != 0) = true from by simpa using hnz]; rfl
         refine ret_of (P := Tryd.prog) (fn := Tryd.f42) (m := [(6, .pointer none), (7, .int .i64 e.check)]) (w := w36) (res2 rfl (rv_tmp rfl) (rv_tmp rfl)) ?_
         exact ⟨_, by (try rw [c12_2]); (try rw [c12_3]); (try rw [c12_4]); (try rw [c12_5]); (try rw [c21_6]); (try rw [c43_27]); (try rw [c49_39]); rw [hz]; rfl, st37.ext, fun _ => rfl, fun h => absurd h (by (try rw [c12_2]); (try rw [c12_3]); (try rw [c12_4]); (try rw [c12_5]); (try rw [c21_6]); (try rw [c43_27]); (try rw [c49_39]); rw [hz]; exact hnz)⟩
        ·
         refine W_seq <| W_regionS ⟨(fun w' => Blk w' g10 61 [.string e.key, .int .i64 e.c, .int .i64 e.n, .string e.val, .bool e.dead].toArray ∧ InS w' b (entCells L)), (fun _ => True)⟩ (.cons 1 0 (.cons 1 1 (.cons 1 2 (.cons 1 3 (.cons 1 4 (.cons 1 5 (.cons 1 6 (.cons 1 7 (.cons 1 8 (.cons 1 9 (.cons 1 10 (.cons 1 11 (.cons 1 12 (.cons 1 13 .nil)))))))))))))) 14 (by kernel_rfl) (by kernel_rfl) ?_
         have st40 := st37.drew
         replace hTr := hTr.drew
         replace hT := hT.drew
         refine RS_sg 3 [.p (.int .i64 ((i : Nat) : Int)), .p (.bool (decide (((i : Nat) : Int) > 0))), .p (.bool (decide (((i : Nat) : Int) > 0)))] [(1, .int .i64 clock), (2, a1), (8, a14), (9, .int .i64 ((i : Nat) : Int)), (10, a32), (40, a1), (41, .int .i64 ((L.length : Nat) : Int)), (42, .int .i64 ((i : Nat) : Int)), (56, .bool (decide (((i : Nat) : Int) > 0)))] (⟨st40.get 0 rfl, hin.ext0 st40.ext⟩) (fun _ hS => trivial) ?_
         rcases Bool.eq_false_or_eq_true (decide (((i : Nat) : Int) > 0)) with c56_41 | c56_41
         ·
          have c56_41p := of_decide_eq_true c56_41
          refine RS_at (m' := [(1, .int .i64 clock), (2, a1), (8, a14), (9, .int .i64 ((i : Nat) : Int)), (10, a32), (40, a1), (41, .int .i64 ((L.length : Nat) : Int)), (42, .int .i64 ((i : Nat) : Int)), (56, .bool true)]) (by rw [c56_41]) ?_
          refine RS_sg 3 [.p a1, .p (.int .i64 ((i : Nat) : Int)), .p (.int .i64 (IntKind.i64.wrap (((i : Nat) : Int) - 1)))] [(1, .int .i64 clock), (2, a1), (8, a14), (10, a32), (40, a1), (41, .int .i64 ((L.length : Nat) : Int)), (42, .int .i64 ((i : Nat) : Int)), (56, .bool true), (57, a1), (59, .int .i64 (IntKind.i64.wrap (((i : Nat) : Int) - 1)))] (⟨st40.get 0 rfl, hin.ext0 st40.ext⟩) (fun _ hS => trivial) ?_
          refine RS_at (m' := [(1, .int .i64 clock), (2, a1), (8, a14), (10, a32), (40, a1), (41, .int .i64 ((L.length : Nat) : Int)), (42, .int .i64 ((i : Nat) : Int)), (56, .bool true), (57, a1), (59, .int .i64 (((i - 1) : Nat) : Int))]) (by rw [show IntKind.i64.wrap (((i : Nat) : Int) - 1) = ((i - 1 : Nat) : Int) by rw [wrap_in (by omega) (by omega)]; omega]) ?_
          obtain ⟨e0, he0⟩ : ∃ e, L[i - 1]? = some e := ⟨L[i - 1], by simp⟩
          refine RS_gq rfl rfl rfl (⟨st40.get 0 rfl, hin.ext0 st40.ext⟩) (v := .pointer (some ⟨(sp b), so b + (i - 1) * 5, none⟩)) (fun _ _ => ev_indexI idxEnt rfl rfl hbs (by omega)) ?_
          refine RS_sg 7 [.p (.pointer (some ⟨(sp b), so b + (i - 1) * 5, none⟩)), .l 9 (.pointer (some ⟨(sp b), so b + (i - 1) * 5, none⟩)) (.string e0.key), .p a32, .l 9 a32 (.string e.key), .p (.bool (!(Op.bytesLess (e0.key).toList (e.key).toList))), .p (.bool (!(Op.bytesLess (e0.key).toList (e.key).toList))), .p (.bool (!(Op.bytesLess (e0.key).toList (e.key).toList)))] [(1, .int .i64 clock), (2, a1), (8, a14), (10, a32), (40, a1), (41, .int .i64 ((L.length : Nat) : Int)), (42, .int .i64 ((i : Nat) : Int)), (53, .bool (!(Op.bytesLess (e0.key).toList (e.key).toList)))] (⟨st40.get 0 rfl, hin.ext0 st40.ext⟩) (fun _ hS => ⟨(InS.load1 nagg_9 (hS.2) (entCells_0 he0 rfl)), ld1b (hS.1) nagg_9 rfl, trivial⟩) ?_
          refine RS_nil <| n_then <| W_cond rfl (fun c53_42 => ?_) (fun c53_42 => ?_)
          ·
           refine W_seq <| W_region <| RP_sg 2 [.p (.pointer none), .p (.int .i64 90)] [(6, .pointer none), (7, .int .i64 90)] trivial ?_
           refine RP_nil <| n_then <| W_ret <| r_block <| r_then <| r_block <| r_then <| r_loop <| r_block <| r_then ?_
           have hp : prevE L i = some e0 := by unfold prevE; rw [if_neg (by omega)]; exact he0
           have hok : okE clock (prevE L i) e = 90 := by unfold okE; (try rw [c49_39]); (try rw [hp]); (try dsimp only); (try rw [c53_42]); rfl
           have hnz : (90 : Int) ≠ 0 := (by decide : (90 : Int) ≠ 0)
           have hz : loadE clock none L = 90 := by rw [← hle, loadE_drop clock L he, hok, show ((90 : Int) != 0) = true from by simpa using hnz]; rfl
           refine ret_of (P := Tryd.prog) (fn := Tryd.f42) (m := [(6, .pointer none), (7, .int .i64 90)]) (w := w36.drew) (res2 rfl (rv_tmp rfl) (rv_tmp rfl)) ?_
           exact ⟨_, by (try rw [c12_2]); (try rw [c12_3]); (try rw [c12_4]); (try rw [c12_5]); (try rw [c21_6]); (try rw [c43_27]); (try rw [c49_39]); (try rw [c56_41]); (try rw [c53_42]); rw [hz]; rfl, st40.ext, fun _ => rfl, fun h => absurd h (by (try rw [c12_2]); (try rw [c12_3]); (try rw [c12_4]); (try rw [c12_5]); (try rw [c21_6]); (try rw [c43_27]); (try rw [c49_39]); (try rw [c56_41]); (try rw [c53_42]); rw [hz]; exact hnz)⟩
          ·
           refine W_seq <| W_region <| RP_sg 6 [.p (.pointer (some ⟨g10, 1, none⟩)), .p (.pointer (some ⟨g10, 1, none⟩)), .l 3 (.pointer (some ⟨g10, 1, none⟩)) (.int .i64 e.c), .p (.int .i64 clock), .p (.bool (decide (e.c > clock))), .p (.bool (decide (e.c > clock)))] [(1, .int .i64 clock), (2, a1), (8, a14), (10, a32), (40, a1), (41, .int .i64 ((L.length : Nat) : Int)), (42, .int .i64 ((i : Nat) : Int)), (67, .bool (decide (e.c > clock)))] ⟨ld1 st40 nagg_3 0 rfl rfl, trivial⟩ ?_
           refine RP_nil <| n_then <| W_cond rfl (fun c67_43 => ?_) (fun c67_43 => ?_)
           ·
            have c67_43p := of_decide_eq_true c67_43
            refine W_seq <| W_region <| RP_sg 2 [.p (.pointer none), .p (.int .i64 30)] [(6, .pointer none), (7, .int .i64 30)] trivial ?_
            refine RP_nil <| n_then <| W_ret <| r_block <| r_then <| r_block <| r_then <| r_loop <| r_block <| r_then ?_
            have hp : prevE L i = some e0 := by unfold prevE; rw [if_neg (by omega)]; exact he0
            have hok : okE clock (prevE L i) e = 30 := by unfold okE; (try rw [c49_39]); (try rw [hp]); (try dsimp only); (try rw [c53_42]); (try rw [c67_43]); rfl
            have hnz : (30 : Int) ≠ 0 := (by decide : (30 : Int) ≠ 0)
            have hz : loadE clock none L = 30 := by rw [← hle, loadE_drop clock L he, hok, show ((30 : Int) != 0) = true from by simpa using hnz]; rfl
            refine ret_of (P := Tryd.prog) (fn := Tryd.f42) (m := [(6, .pointer none), (7, .int .i64 30)]) (w := w36.drew) (res2 rfl (rv_tmp rfl) (rv_tmp rfl)) ?_
            exact ⟨_, by (try rw [c12_2]); (try rw [c12_3]); (try rw [c12_4]); (try rw [c12_5]); (try rw [c21_6]); (try rw [c43_27]); (try rw [c49_39]); (try rw [c56_41]); (try rw [c53_42]); (try rw [c67_43]); rw [hz]; rfl, st40.ext, fun _ => rfl, fun h => absurd h (by (try rw [c12_2]); (try rw [c12_3]); (try rw [c12_4]); (try rw [c12_5]); (try rw [c21_6]); (try rw [c43_27]); (try rw [c49_39]); (try rw [c56_41]); (try rw [c53_42]); (try rw [c67_43]); rw [hz]; exact hnz)⟩
           ·
            have c67_43p := of_decide_eq_false c67_43
            refine W_skip <| n_block <| n_then <| W_regionS ⟨(fun w' => Blk w' g10 61 [.string e.key, .int .i64 e.c, .int .i64 e.n, .string e.val, .bool e.dead].toArray ∧ Blk w' gs 129 [.int .i64 node, .int .i64 clock, .pointer (some ⟨bm, 0, none⟩), a20].toArray), (fun _ => True)⟩ (.cons 1 0 (.cons 1 1 (.cons 1 2 (.cons 1 3 (.cons 1 4 (.cons 1 5 (.cons 1 6 (.cons 1 7 (.cons 2 8 (.cons 2 9 .nil)))))))))) 10 (by kernel_rfl) (by kernel_rfl) ?_
            have st44 := st40.drew
            replace hTr := hTr.drew
            replace hT := hT.drew
            refine RS_sg 8 [.p a14, .p a14, .p a21, .l 127 a21 a20, .p a32, .l 9 a32 (.string e.key), .l 61 a32 a28, .l 61 a32 a28] [(1, .int .i64 clock), (2, a1), (8, a14), (40, a1), (41, .int .i64 ((L.length : Nat) : Int)), (42, .int .i64 ((i : Nat) : Int)), (76, a20), (78, .string e.key), (79, a28), (80, a28)] (⟨st44.get 0 rfl, st44.get 1 rfl⟩) (fun _ hS => ⟨ld1b (hS.2) nagg_127 rfl, ld1b (hS.1) nagg_9 rfl, ldNb (hS.1) agg_61 rfl rfl, ldNb (hS.1) agg_61 rfl rfl, trivial⟩) ?_
            have hek : e.key.size < 1000000000 := Nat.lt_of_le_of_lt (check_key (by simpa using c49_39)) (by decide)
            refine RS_e rfl rfl (ef_call (k := 103) (args := [a28]) (tallyOf_cr e (hl.ext st44.ext List.not_mem_nil) hek) body_103 (by kernel_rfl)) ?_
            rintro _ w45 ⟨_, rfl, rfl, hx47⟩
            have st46 := st44.call0 hx47
            replace hTr := hTr.ext hx47 (by simp)
            replace hT := hT.to hx47 (NoNode.nil _)
            refine ⟨⟨st46.get 0 rfl, st46.get 1 rfl⟩, ?_⟩
            refine RS_e rfl rfl (ef_call (k := 102) (args := [a20, .string e.key, a28, .agg #[.int .i64 e.tal.k, .int .u64 e.tal.a, .int .u64 e.tal.b]]) (treePut_cr e hTr hT (by have := T.load_size (L.take i); simp only [List.length_take] at this; omega)) body_102 (by kernel_rfl)) ?_
            rintro _ w48 ⟨_, rfl, rfl, p2, hTr2, hT2, hx50⟩
            have st49 := st46.call hx50 (st46.apart hTr rfl) (by simp; omega)
            replace hTr := hTr2
            replace hT := hT2
            refine ⟨⟨st49.get 0 rfl, st49.get 1 rfl⟩, ?_⟩
            refine RS_pk [(1, .int .i64 clock), (2, a1), (8, a14), (40, a1), (41, .int .i64 ((L.length : Nat) : Int)), (42, .int .i64 ((i : Nat) : Int))] ?_
            refine RS_nil <| n_block <| n_then <| W_region <| RP_sg 2 [.p (.int .i64 (IntKind.i64.wrap (((i : Nat) : Int) + 1))), .p (.int .i64 (IntKind.i64.wrap (((i : Nat) : Int) + 1)))] [(1, .int .i64 clock), (2, a1), (8, a14), (40, a1), (41, .int .i64 ((L.length : Nat) : Int)), (42, .int .i64 (IntKind.i64.wrap (((i : Nat) : Int) + 1)))] trivial ?_
            refine RP_nil ?_
            have hp : prevE L i = some e0 := by unfold prevE; rw [if_neg (by omega)]; exact he0
            have hok : okE clock (prevE L i) e = 0 := by unfold okE; (try rw [c49_39]); (try rw [hp]); (try dsimp only); (try rw [c53_42]); (try rw [c67_43]); rfl
            have hz : loadE clock (prevE L (i + 1)) (L.drop (i + 1)) = loadE clock none L := by rw [← hle, loadE_drop clock L he, hok]; rfl
            exact ⟨_, by omega, (i + 1), p2, _, rfl, by rw [inc_w (n := i) (by omega)], st49.sub [] (List.sublist_cons_self _ _), hTr, by rw [T.load_succ he]; exact hT, by omega, hz⟩
         ·
          have c56_41p := of_decide_eq_false c56_41
          refine RS_at (m' := [(1, .int .i64 clock), (2, a1), (8, a14), (9, .int .i64 ((i : Nat) : Int)), (10, a32), (40, a1), (41, .int .i64 ((L.length : Nat) : Int)), (42, .int .i64 ((i : Nat) : Int)), (56, .bool false)]) (by rw [c56_41]) ?_
          refine RS_sg 11 [.no, .no, .no, .no, .no, .no, .no, .no, .no, .p (.bool false), .p (.bool false)] [(1, .int .i64 clock), (2, a1), (8, a14), (10, a32), (40, a1), (41, .int .i64 ((L.length : Nat) : Int)), (42, .int .i64 ((i : Nat) : Int)), (53, .bool false)] (⟨st40.get 0 rfl, hin.ext0 st40.ext⟩) (fun _ hS => trivial) ?_
          refine RS_nil <| n_then <| W_false rfl ?_
          refine W_seq <| W_region <| RP_sg 6 [.p (.pointer (some ⟨g10, 1, none⟩)), .p (.pointer (some ⟨g10, 1, none⟩)), .l 3 (.pointer (some ⟨g10, 1, none⟩)) (.int .i64 e.c), .p (.int .i64 clock), .p (.bool (decide (e.c > clock))), .p (.bool (decide (e.c > clock)))] [(1, .int .i64 clock), (2, a1), (8, a14), (10, a32), (40, a1), (41, .int .i64 ((L.length : Nat) : Int)), (42, .int .i64 ((i : Nat) : Int)), (67, .bool (decide (e.c > clock)))] ⟨ld1 st40 nagg_3 0 rfl rfl, trivial⟩ ?_
          refine RP_nil <| n_then <| W_cond rfl (fun c67_51 => ?_) (fun c67_51 => ?_)
          ·
           have c67_51p := of_decide_eq_true c67_51
           refine W_seq <| W_region <| RP_sg 2 [.p (.pointer none), .p (.int .i64 30)] [(6, .pointer none), (7, .int .i64 30)] trivial ?_
           refine RP_nil <| n_then <| W_ret <| r_block <| r_then <| r_block <| r_then <| r_loop <| r_block <| r_then ?_
           have hp : prevE L i = none := by unfold prevE; rw [if_pos (by omega)]
           have hok : okE clock (prevE L i) e = 30 := by unfold okE; (try rw [c49_39]); (try rw [hp]); (try dsimp only); (try rw [c67_51]); rfl
           have hnz : (30 : Int) ≠ 0 := (by decide : (30 : Int) ≠ 0)
           have hz : loadE clock none L = 30 := by rw [← hle, loadE_drop clock L he, hok, show ((30 : Int) != 0) = true from by simpa using hnz]; rfl
           refine ret_of (P := Tryd.prog) (fn := Tryd.f42) (m := [(6, .pointer none), (7, .int .i64 30)]) (w := w36.drew) (res2 rfl (rv_tmp rfl) (rv_tmp rfl)) ?_
           exact ⟨_, by (try rw [c12_2]); (try rw [c12_3]); (try rw [c12_4]); (try rw [c12_5]); (try rw [c21_6]); (try rw [c43_27]); (try rw [c49_39]); (try rw [c56_41]); (try rw [c67_51]); rw [hz]; rfl, st40.ext, fun _ => rfl, fun h => absurd h (by (try rw [c12_2]); (try rw [c12_3]); (try rw [c12_4]); (try rw [c12_5]); (try rw [c21_6]); (try rw [c43_27]); (try rw [c49_39]); (try rw [c56_41]); (try rw [c67_51]); rw [hz]; exact hnz)⟩
          ·
           have c67_51p := of_decide_eq_false c67_51
           refine W_skip <| n_block <| n_then <| W_regionS ⟨(fun w' => Blk w' g10 61 [.string e.key, .int .i64 e.c, .int .i64 e.n, .string e.val, .bool e.dead].toArray ∧ Blk w' gs 129 [.int .i64 node, .int .i64 clock, .pointer (some ⟨bm, 0, none⟩), a20].toArray), (fun _ => True)⟩ (.cons 1 0 (.cons 1 1 (.cons 1 2 (.cons 1 3 (.cons 1 4 (.cons 1 5 (.cons 1 6 (.cons 1 7 (.cons 2 8 (.cons 2 9 .nil)))))))))) 10 (by kernel_rfl) (by kernel_rfl) ?_
           have st52 := st40.drew
           replace hTr := hTr.drew
           replace hT := hT.drew
           refine RS_sg 8 [.p a14, .p a14, .p a21, .l 127 a21 a20, .p a32, .l 9 a32 (.string e.key), .l 61 a32 a28, .l 61 a32 a28] [(1, .int .i64 clock), (2, a1), (8, a14), (40, a1), (41, .int .i64 ((L.length : Nat) : Int)), (42, .int .i64 ((i : Nat) : Int)), (76, a20), (78, .string e.key), (79, a28), (80, a28)] (⟨st52.get 0 rfl, st52.get 1 rfl⟩) (fun _ hS => ⟨ld1b (hS.2) nagg_127 rfl, ld1b (hS.1) nagg_9 rfl, ldNb (hS.1) agg_61 rfl rfl, ldNb (hS.1) agg_61 rfl rfl, trivial⟩) ?_
           have hek : e.key.size < 1000000000 := Nat.lt_of_le_of_lt (check_key (by simpa using c49_39)) (by decide)
           refine RS_e rfl rfl (ef_call (k := 103) (args := [a28]) (tallyOf_cr e (hl.ext st52.ext List.not_mem_nil) hek) body_103 (by kernel_rfl)) ?_
           rintro _ w53 ⟨_, rfl, rfl, hx55⟩
           have st54 := st52.call0 hx55
           replace hTr := hTr.ext hx55 (by simp)
           replace hT := hT.to hx55 (NoNode.nil _)
           refine ⟨⟨st54.get 0 rfl, st54.get 1 rfl⟩, ?_⟩
           refine RS_e rfl rfl (ef_call (k := 102) (args := [a20, .string e.key, a28, .agg #[.int .i64 e.tal.k, .int .u64 e.tal.a, .int .u64 e.tal.b]]) (treePut_cr e hTr hT (by have := T.load_size (L.take i); simp only [List.length_take] at this; omega)) body_102 (by kernel_rfl)) ?_
           rintro _ w56 ⟨_, rfl, rfl, p2, hTr2, hT2, hx58⟩
           have st57 := st54.call hx58 (st54.apart hTr rfl) (by simp; omega)
           replace hTr := hTr2
           replace hT := hT2
           refine ⟨⟨st57.get 0 rfl, st57.get 1 rfl⟩, ?_⟩
           refine RS_pk [(1, .int .i64 clock), (2, a1), (8, a14), (40, a1), (41, .int .i64 ((L.length : Nat) : Int)), (42, .int .i64 ((i : Nat) : Int))] ?_
           refine RS_nil <| n_block <| n_then <| W_region <| RP_sg 2 [.p (.int .i64 (IntKind.i64.wrap (((i : Nat) : Int) + 1))), .p (.int .i64 (IntKind.i64.wrap (((i : Nat) : Int) + 1)))] [(1, .int .i64 clock), (2, a1), (8, a14), (40, a1), (41, .int .i64 ((L.length : Nat) : Int)), (42, .int .i64 (IntKind.i64.wrap (((i : Nat) : Int) + 1)))] trivial ?_
           refine RP_nil ?_
           have hp : prevE L i = none := by unfold prevE; rw [if_pos (by omega)]
           have hok : okE clock (prevE L i) e = 0 := by unfold okE; (try rw [c49_39]); (try rw [hp]); (try dsimp only); (try rw [c67_51]); rfl
           have hz : loadE clock (prevE L (i + 1)) (L.drop (i + 1)) = loadE clock none L := by rw [← hle, loadE_drop clock L he, hok]; rfl
           exact ⟨_, by omega, (i + 1), p2, _, rfl, by rw [inc_w (n := i) (by omega)], st57.sub [] (List.sublist_cons_self _ _), hTr, by rw [T.load_succ he]; exact hT, by omega, hz⟩
       ·
        have c43_27p := of_decide_eq_false c43_27
        refine W_exit ?_
        refine e_then <| e_loop <| e_here ?_
        refine n_then <| W_seq <| W_region <| RP_sg 3 [.p a14, .p a14, .p (.int .i64 0)] [(6, a14), (7, .int .i64 0)] trivial ?_
        refine RP_nil <| n_then <| W_ret ?_
        have hiL : i = L.length := by omega
        rw [hiL, List.drop_length] at hle
        rw [hiL, List.take_length] at hT
        have hz : loadE clock none L = 0 := hle.symm
        refine ret_of (P := Tryd.prog) (fn := Tryd.f42) (m := [(6, .pointer (some ⟨gs, 0, none⟩)), (7, .int .i64 0)]) (w := w26) (res2 rfl (rv_tmp rfl) (rv_tmp rfl)) ?_
        exact ⟨_, by (try rw [c12_2]); (try rw [c12_3]); (try rw [c12_4]); (try rw [c12_5]); (try rw [c21_6]); (try rw [c43_27]); rw [hz]; rfl, st25.ext, fun h => absurd (by (try rw [c12_2]); (try rw [c12_3]); (try rw [c12_4]); (try rw [c12_5]); (try rw [c21_6]); (try rw [c43_27]); exact hz) h, fun _ => ⟨gs, bm, bt, p, jj, rfl, ⟨st25.get 0 rfl, hTr, hT⟩, hgs, hbm, hbt⟩⟩
end Go.Proofs.YtcopemgkjbaaeaaDoor
namespace Go.Proofs.YtcopemgkjbaaeaaDoor
set_option linter.all false
open Go.RowKit
structure Rng where
  lo : ByteArray
  hi : ByteArray
  op : Bool
def Rng.v (r : Rng) : Value := .agg #[.string r.lo, .string r.hi, .bool r.op]
def Rng.check (r : Rng) : Int := cond (decide (((r.lo.size : Nat) : Int) > 16)) 20 (cond (decide (((r.hi.size : Nat) : Int) > 16)) 20 (cond (r.op && !(r.hi.toList == (⟨#[]⟩ : ByteArray).toList)) 21 (cond (!r.op && kgt r.lo r.hi) 21 0)))
theorem spanCheck_cr (r : Rng) (w : World) : CR Tryd.prog 29 [r.v] w fun v w' => v = .int .i64 r.check ∧ Ext [] w w' := by
  have st := St.init w []
  unfold Rng.check kgt
  refine CR_enter Tryd.func29 rfl Tryd.ntmps29 rfl ?_
  refine W_seq <| W_region <| RP_e rfl (ef_box st rfl rfl) ?_
  rintro _ w1 ⟨g4, rfl, hg4, hg4', st2, hx3⟩
  replace st2 : St [] w w1 [(g4, 24, [.string r.lo, .string r.hi, .bool r.op])] := st2
  let a5 : Value := .pointer (some ⟨g4, 0, none⟩)
  refine RP_sg 1 [.p (.int .i64 0)] [(1, a5)] trivial ?_
  refine RP_nil <| n_then <| W_seq <| W_block <| W_seq <| W_seq <| W_region <| RP_sg 5 [.p a5, .l 9 a5 (.string r.lo), .p (.int .i64 (((r.lo).size : Nat) : Int)), .p (.bool (decide ((((r.lo).size : Nat) : Int) > 16))), .p (.bool (decide ((((r.lo).size : Nat) : Int) > 16)))] [(1, a5), (3, .bool (decide ((((r.lo).size : Nat) : Int) > 16)))] ⟨ld1 st2 nagg_9 0 rfl rfl, trivial⟩ ?_
  refine RP_nil <| n_then <| W_cond rfl (fun c3_6 => ?_) (fun c3_6 => ?_)
  ·
   have c3_6p := of_decide_eq_true c3_6
   refine W_skip <| n_then <| W_true' rfl c3_6 ?_
   refine W_seq <| W_region <| RP_sg 1 [.p (.int .i64 20)] [(2, .int .i64 20)] trivial ?_
   refine RP_nil <| n_then <| W_ret <| r_block <| r_then ?_
   refine ret_of (P := Tryd.prog) (fn := Tryd.f29) (m := [(2, .int .i64 20)]) (w := w1) (res1 rfl (rv_tmp rfl)) ?_
   exact ⟨by (try rw [c3_6]); rfl, st2.ext⟩
  ·
   have c3_6p := of_decide_eq_false c3_6
   refine W_region <| RP_sg 5 [.p (.pointer (some ⟨g4, 1, none⟩)), .l 9 (.pointer (some ⟨g4, 1, none⟩)) (.string r.hi), .p (.int .i64 (((r.hi).size : Nat) : Int)), .p (.bool (decide ((((r.hi).size : Nat) : Int) > 16))), .p (.bool (decide ((((r.hi).size : Nat) : Int) > 16)))] [(1, a5), (3, .bool (decide ((((r.hi).size : Nat) : Int) > 16)))] ⟨ld1 st2 nagg_9 0 rfl rfl, trivial⟩ ?_
   refine RP_nil <| n_then <| W_cond rfl (fun c3_7 => ?_) (fun c3_7 => ?_)
   ·
    have c3_7p := of_decide_eq_true c3_7
    refine W_seq <| W_region <| RP_sg 1 [.p (.int .i64 20)] [(2, .int .i64 20)] trivial ?_
    refine RP_nil <| n_then <| W_ret <| r_block <| r_then ?_
    refine ret_of (P := Tryd.prog) (fn := Tryd.f29) (m := [(2, .int .i64 20)]) (w := w1) (res1 rfl (rv_tmp rfl)) ?_
    exact ⟨by (try rw [c3_6]); (try rw [c3_7]); rfl, st2.ext⟩
   ·
    have c3_7p := of_decide_eq_false c3_7
    refine W_seq <| W_seq <| W_region <| RP_sg 3 [.p (.pointer (some ⟨g4, 2, none⟩)), .l 4 (.pointer (some ⟨g4, 2, none⟩)) (.bool r.op), .p (.bool r.op)] [(1, a5), (15, .bool r.op)] ⟨ld1 st2 nagg_4 0 rfl rfl, trivial⟩ ?_
    rcases Bool.eq_false_or_eq_true (r.op) with c15_8 | c15_8
    ·
     refine RP_at (m' := [(1, a5), (15, .bool true)]) (by rw [c15_8]) ?_
     refine RP_sg 5 [.p (.pointer (some ⟨g4, 1, none⟩)), .l 9 (.pointer (some ⟨g4, 1, none⟩)) (.string r.hi), .p (.bool (!((r.hi).toList == ((⟨#[]⟩ : ByteArray)).toList))), .p (.bool (!((r.hi).toList == ((⟨#[]⟩ : ByteArray)).toList))), .p (.bool (!((r.hi).toList == ((⟨#[]⟩ : ByteArray)).toList)))] [(1, a5), (12, .bool (!((r.hi).toList == ((⟨#[]⟩ : ByteArray)).toList)))] ⟨ld1 st2 nagg_9 0 rfl rfl, trivial⟩ ?_
     refine RP_nil <| n_then <| W_cond rfl (fun c12_9 => ?_) (fun c12_9 => ?_)
     ·
      refine W_skip <| n_then <| W_true' rfl c12_9 ?_
      refine W_seq <| W_region <| RP_sg 1 [.p (.int .i64 21)] [(2, .int .i64 21)] trivial ?_
      refine RP_nil <| n_then <| W_ret <| r_block <| r_then ?_
      refine ret_of (P := Tryd.prog) (fn := Tryd.f29) (m := [(2, .int .i64 21)]) (w := w1) (res1 rfl (rv_tmp rfl)) ?_
      exact ⟨by (try rw [c3_6]); (try rw [c3_7]); (try rw [c15_8]); (try rw [c12_9]); rfl, st2.ext⟩
     ·
      refine W_region <| RP_sg 4 [.p (.pointer (some ⟨g4, 2, none⟩)), .l 4 (.pointer (some ⟨g4, 2, none⟩)) (.bool r.op), .p (.bool (!r.op)), .p (.bool (!r.op))] [(1, a5), (23, .bool (!r.op))] ⟨ld1 st2 nagg_4 0 rfl rfl, trivial⟩ ?_
      have cn10 : (!r.op) = false := by rw [c15_8]; rfl
      refine RP_at (m' := [(1, a5), (23, .bool false)]) (by rw [cn10]) ?_
      refine RP_sg 7 [.no, .no, .no, .no, .no, .p (.bool false), .p (.bool false)] [(12, .bool false)] trivial ?_
      refine RP_nil <| n_then <| W_false rfl ?_
      refine W_skip <| n_block <| n_then <| W_seq <| W_region <| RP_sg 1 [.p (.int .i64 0)] [(2, .int .i64 0)] trivial ?_
      refine RP_nil <| n_then <| W_ret <| ret_of (P := Tryd.prog) (fn := Tryd.f29) (m := [(2, .int .i64 0)]) (w := w1) (res1 rfl (rv_tmp rfl)) ?_
      exact ⟨by (try rw [c3_6]); (try rw [c3_7]); (try rw [c15_8]); (try rw [c12_9]); (try rw [cn10]); rfl, st2.ext⟩
    ·
     refine RP_at (m' := [(1, a5), (15, .bool false)]) (by rw [c15_8]) ?_
     refine RP_sg 5 [.no, .no, .no, .p (.bool false), .p (.bool false)] [(1, a5), (12, .bool false)] trivial ?_
     refine RP_nil <| n_then <| W_false rfl ?_
     refine W_region <| RP_sg 4 [.p (.pointer (some ⟨g4, 2, none⟩)), .l 4 (.pointer (some ⟨g4, 2, none⟩)) (.bool r.op), .p (.bool (!r.op)), .p (.bool (!r.op))] [(1, a5), (23, .bool (!r.op))] ⟨ld1 st2 nagg_4 0 rfl rfl, trivial⟩ ?_
     have cn11 : (!r.op) = true := by rw [c15_8]; rfl
     refine RP_at (m' := [(1, a5), (23, .bool true)]) (by rw [cn11]) ?_
     refine RP_sg 7 [.p a5, .l 9 a5 (.string r.lo), .p (.pointer (some ⟨g4, 1, none⟩)), .l 9 (.pointer (some ⟨g4, 1, none⟩)) (.string r.hi), .p (.bool (!(Op.bytesLess (r.lo).toList (r.hi).toList || (r.lo).toList == (r.hi).toList))), .p (.bool (!(Op.bytesLess (r.lo).toList (r.hi).toList || (r.lo).toList == (r.hi).toList))), .p (.bool (!(Op.bytesLess (r.lo).toList (r.hi).toList || (r.lo).toList == (r.hi).toList)))] [(12, .bool (!(Op.bytesLess (r.lo).toList (r.hi).toList || (r.lo).toList == (r.hi).toList)))] ⟨ld1 st2 nagg_9 0 rfl rfl, ld1 st2 nagg_9 0 rfl rfl, trivial⟩ ?_
     refine RP_nil <| n_then <| W_cond rfl (fun c12_12 => ?_) (fun c12_12 => ?_)
     ·
      refine W_seq <| W_region <| RP_sg 1 [.p (.int .i64 21)] [(2, .int .i64 21)] trivial ?_
      refine RP_nil <| n_then <| W_ret <| r_block <| r_then ?_
      refine ret_of (P := Tryd.prog) (fn := Tryd.f29) (m := [(2, .int .i64 21)]) (w := w1) (res1 rfl (rv_tmp rfl)) ?_
      exact ⟨by (try rw [c3_6]); (try rw [c3_7]); (try rw [c15_8]); (try rw [cn11]); (try rw [c12_12]); rfl, st2.ext⟩
     ·
      refine W_skip <| n_block <| n_then <| W_seq <| W_region <| RP_sg 1 [.p (.int .i64 0)] [(2, .int .i64 0)] trivial ?_
      refine RP_nil <| n_then <| W_ret <| ret_of (P := Tryd.prog) (fn := Tryd.f29) (m := [(2, .int .i64 0)]) (w := w1) (res1 rfl (rv_tmp rfl)) ?_
      exact ⟨by (try rw [c3_6]); (try rw [c3_7]); (try rw [c15_8]); (try rw [cn11]); (try rw [c12_12]); rfl, st2.ext⟩
def Rng.empty (r : Rng) : Bool := (r.check != 0) || (!r.op && (r.lo.toList == r.hi.toList))
theorem spanEmpty_cr (r : Rng) (w : World) : CR Tryd.prog 45 [r.v] w fun v w' => v = .bool r.empty ∧ Ext [] w w' := by
  have st := St.init w []
  unfold Rng.empty
  refine CR_enter Tryd.func45 rfl Tryd.ntmps45 rfl ?_
  refine W_seq <| W_region <| RP_e rfl (ef_box st rfl rfl) ?_
  rintro _ w1 ⟨g4, rfl, hg4, hg4', st2, hx3⟩
  replace st2 : St [] w w1 [(g4, 24, [.string r.lo, .string r.hi, .bool r.op])] := st2
  let a5 : Value := .pointer (some ⟨g4, 0, none⟩)
  refine RP_sg 1 [.p (.bool false)] [(1, a5)] trivial ?_
  refine RP_nil <| n_then <| W_seq <| W_region ?_
  let a6 : Value := .agg #[.string r.lo, .string r.hi, .bool r.op]
  refine RP_sg 1 [.l 24 a5 a6] [(1, a5), (3, a6)] ⟨ldN st2 agg_24 0 rfl rfl rfl, trivial⟩ ?_
  refine RP_e rfl (ef_call (k := 29) (args := [a6]) (spanCheck_cr r _) body_29 (by kernel_rfl)) ?_
  rintro _ w7 ⟨_, rfl, rfl, hx9⟩
  have st8 := st2.call0 hx9
  refine RP_sg 2 [.p (.bool (r.check != 0)), .p (.bool (r.check != 0))] [(1, a5), (6, .bool (r.check != 0))] trivial ?_
  rcases Bool.eq_false_or_eq_true (r.check != 0) with c6_10 | c6_10
  ·
   refine RP_at (m' := [(1, a5), (6, .bool true)]) (by rw [c6_10]) ?_
   refine RP_sg 12 [.no, .no, .no, .no, .no, .no, .no, .no, .no, .no, .p (.bool true), .p (.bool true)] [(2, .bool true)] trivial ?_
   refine RP_nil <| n_then <| W_ret <| ret_of (P := Tryd.prog) (fn := Tryd.f45) (m := [(2, .bool true)]) (w := w7) (res1 rfl (rv_tmp rfl)) ?_
   exact ⟨by (try rw [c6_10]); rfl, st8.ext⟩
  ·
   refine RP_at (m' := [(1, a5), (6, .bool false)]) (by rw [c6_10]) ?_
   refine RP_sg 4 [.p (.pointer (some ⟨g4, 2, none⟩)), .l 4 (.pointer (some ⟨g4, 2, none⟩)) (.bool r.op), .p (.bool (!r.op)), .p (.bool (!r.op))] [(1, a5), (6, .bool false), (10, .bool (!r.op))] ⟨ld1 st8 nagg_4 0 rfl rfl, trivial⟩ ?_
   rcases Bool.eq_false_or_eq_true (!r.op) with c10_11 | c10_11
   ·
    refine RP_at (m' := [(1, a5), (6, .bool false), (10, .bool true)]) (by rw [c10_11]) ?_
    refine RP_sg 8 [.p a5, .l 9 a5 (.string r.lo), .p (.pointer (some ⟨g4, 1, none⟩)), .l 9 (.pointer (some ⟨g4, 1, none⟩)) (.string r.hi), .p (.bool ((r.lo).toList == (r.hi).toList)), .p (.bool ((r.lo).toList == (r.hi).toList)), .p (.bool ((r.lo).toList == (r.hi).toList)), .p (.bool ((r.lo).toList == (r.hi).toList))] [(2, .bool ((r.lo).toList == (r.hi).toList))] ⟨ld1 st8 nagg_9 0 rfl rfl, ld1 st8 nagg_9 0 rfl rfl, trivial⟩ ?_
    refine RP_nil <| n_then <| W_ret <| ret_of (P := Tryd.prog) (fn := Tryd.f45) (m := [(2, .bool ((r.lo).toList == (r.hi).toList))]) (w := w7) (res1 rfl (rv_tmp rfl)) ?_
    exact ⟨by (try rw [c6_10]); (try rw [c10_11]); rfl, st8.ext⟩
   ·
    refine RP_at (m' := [(1, a5), (6, .bool false), (10, .bool false)]) (by rw [c10_11]) ?_
    refine RP_sg 8 [.no, .no, .no, .no, .no, .p (.bool false), .p (.bool false), .p (.bool false)] [(2, .bool false)] trivial ?_
    refine RP_nil <| n_then <| W_ret <| ret_of (P := Tryd.prog) (fn := Tryd.f45) (m := [(2, .bool false)]) (w := w7) (res1 rfl (rv_tmp rfl)) ?_
    exact ⟨by (try rw [c6_10]); (try rw [c10_11]); rfl, st8.ext⟩
def Rng.below (r : Rng) (k : ByteArray) : Bool := r.op || klt k r.hi
theorem spanBelow_cr (r : Rng) (k : ByteArray) (w : World) : CR Tryd.prog 110 [.string k, r.v] w fun v w' => v = .bool (r.below k) ∧ Ext [] w w' := by
  have st := St.init w []
  unfold Rng.below klt
  refine CR_enter Tryd.func110 rfl Tryd.ntmps110 rfl ?_
  refine W_seq <| W_region <| RP_e rfl (ef_box st rfl rfl) ?_
  rintro _ w1 ⟨g4, rfl, hg4, hg4', st2, hx3⟩
  replace st2 : St [] w w1 [(g4, 24, [.string r.lo, .string r.hi, .bool r.op])] := st2
  let a5 : Value := .pointer (some ⟨g4, 0, none⟩)
  refine RP_sg 1 [.p (.bool false)] [(0, .string k), (3, a5)] trivial ?_
  refine RP_nil <| n_then <| W_seq <| W_region <| RP_sg 3 [.p (.pointer (some ⟨g4, 2, none⟩)), .l 4 (.pointer (some ⟨g4, 2, none⟩)) (.bool r.op), .p (.bool r.op)] [(0, .string k), (3, a5), (7, .bool r.op)] ⟨ld1 st2 nagg_4 0 rfl rfl, trivial⟩ ?_
  rcases Bool.eq_false_or_eq_true (r.op) with c7_6 | c7_6
  ·
   refine RP_at (m' := [(0, .string k), (3, a5), (7, .bool true)]) (by rw [c7_6]) ?_
   refine RP_sg 6 [.no, .no, .no, .no, .p (.bool true), .p (.bool true)] [(4, .bool true)] trivial ?_
   refine RP_nil <| n_then <| W_ret <| ret_of (P := Tryd.prog) (fn := Tryd.f110) (m := [(4, .bool true)]) (w := w1) (res1 rfl (rv_tmp rfl)) ?_
   exact ⟨by (try rw [c7_6]); rfl, st2.ext⟩
  ·
   refine RP_at (m' := [(0, .string k), (3, a5), (7, .bool false)]) (by rw [c7_6]) ?_
   refine RP_sg 6 [.p (.string k), .p (.pointer (some ⟨g4, 1, none⟩)), .l 9 (.pointer (some ⟨g4, 1, none⟩)) (.string r.hi), .p (.bool (Op.bytesLess (k).toList (r.hi).toList)), .p (.bool (Op.bytesLess (k).toList (r.hi).toList)), .p (.bool (Op.bytesLess (k).toList (r.hi).toList))] [(4, .bool (Op.bytesLess (k).toList (r.hi).toList))] ⟨ld1 st2 nagg_9 0 rfl rfl, trivial⟩ ?_
   refine RP_nil <| n_then <| W_ret <| ret_of (P := Tryd.prog) (fn := Tryd.f110) (m := [(4, .bool (Op.bytesLess (k).toList (r.hi).toList))]) (w := w1) (res1 rfl (rv_tmp rfl)) ?_
   exact ⟨by (try rw [c7_6]); rfl, st2.ext⟩
def kle (a b : ByteArray) : Bool := Op.bytesLess a.toList b.toList || a.toList == b.toList
def Rng.holds (r : Rng) (k : ByteArray) : Bool := (r.check == 0) && (decide (((k.size : Nat) : Int) ≤ 16) && (kle r.lo k && r.below k))
theorem spanHolds_cr (r : Rng) (k : ByteArray) (w : World) : CR Tryd.prog 58 [r.v, .string k] w fun v w' => v = .bool (r.holds k) ∧ Ext [] w w' := by
  have st := St.init w []
  unfold Rng.holds kle
  refine CR_enter Tryd.func58 rfl Tryd.ntmps58 rfl ?_
  refine W_seq <| W_region <| RP_e rfl (ef_box st rfl rfl) ?_
  rintro _ w1 ⟨g4, rfl, hg4, hg4', st2, hx3⟩
  replace st2 : St [] w w1 [(g4, 24, [.string r.lo, .string r.hi, .bool r.op])] := st2
  let a5 : Value := .pointer (some ⟨g4, 0, none⟩)
  refine RP_sg 1 [.p (.bool false)] [(1, .string k), (2, a5)] trivial ?_
  refine RP_nil <| n_then <| W_seq <| W_region ?_
  let a6 : Value := .agg #[.string r.lo, .string r.hi, .bool r.op]
  refine RP_sg 1 [.l 24 a5 a6] [(1, .string k), (2, a5), (5, a6)] ⟨ldN st2 agg_24 0 rfl rfl rfl, trivial⟩ ?_
  refine RP_e rfl (ef_call (k := 29) (args := [a6]) (spanCheck_cr r _) body_29 (by kernel_rfl)) ?_
  rintro _ w7 ⟨_, rfl, rfl, hx9⟩
  have st8 := st2.call0 hx9
  refine RP_sg 2 [.p (.bool (r.check == 0)), .p (.bool (r.check == 0))] [(1, .string k), (2, a5), (8, .bool (r.check == 0))] trivial ?_
  rcases Bool.eq_false_or_eq_true (r.check == 0) with c8_10 | c8_10
  ·
   refine RP_at (m' := [(1, .string k), (2, a5), (8, .bool true)]) (by rw [c8_10]) ?_
   refine RP_sg 5 [.p (.string k), .p (.int .i64 (((k).size : Nat) : Int)), .p (.bool (decide ((((k).size : Nat) : Int) ≤ 16))), .p (.bool (decide ((((k).size : Nat) : Int) ≤ 16))), .p (.bool (decide ((((k).size : Nat) : Int) ≤ 16)))] [(1, .string k), (2, a5), (13, .bool (decide ((((k).size : Nat) : Int) ≤ 16)))] trivial ?_
   rcases Bool.eq_false_or_eq_true (decide ((((k).size : Nat) : Int) ≤ 16)) with c13_11 | c13_11
   ·
    have c13_11p := of_decide_eq_true c13_11
    refine RP_at (m' := [(1, .string k), (2, a5), (13, .bool true)]) (by rw [c13_11]) ?_
    refine RP_sg 6 [.p a5, .l 9 a5 (.string r.lo), .p (.string k), .p (.bool (Op.bytesLess (r.lo).toList (k).toList || (r.lo).toList == (k).toList)), .p (.bool (Op.bytesLess (r.lo).toList (k).toList || (r.lo).toList == (k).toList)), .p (.bool (Op.bytesLess (r.lo).toList (k).toList || (r.lo).toList == (k).toList))] [(1, .string k), (2, a5), (19, .bool (Op.bytesLess (r.lo).toList (k).toList || (r.lo).toList == (k).toList))] ⟨ld1 st8 nagg_9 0 rfl rfl, trivial⟩ ?_
    rcases Bool.eq_false_or_eq_true ((Op.bytesLess (r.lo).toList (k).toList || (r.lo).toList == (k).toList)) with c19_12 | c19_12
    ·
     refine RP_at (m' := [(1, .string k), (2, a5), (19, .bool true)]) (by rw [c19_12]) ?_
     refine RP_sg 2 [.p (.string k), .l 24 a5 a6] [(19, .bool true), (20, .string k), (21, a6)] ⟨ldN st8 agg_24 0 rfl rfl rfl, trivial⟩ ?_
     refine RP_ge rfl rfl (ef_call (k := 110) (args := [.string k, a6]) (spanBelow_cr r k _) body_110 (by kernel_rfl)) ?_
     rintro _ w13 ⟨_, rfl, rfl, hx15⟩
     have st14 := st8.call0 hx15
     refine RP_sg 2 [.p (.bool (r.below k)), .p (.bool (r.below k))] [(4, .bool (r.below k))] trivial ?_
     refine RP_nil <| n_then <| W_ret <| ret_of (P := Tryd.prog) (fn := Tryd.f58) (m := [(4, .bool (r.below k))]) (w := w13) (res1 rfl (rv_tmp rfl)) ?_
     exact ⟨by (try rw [c8_10]); (try rw [c13_11]); (try rw [c19_12]); rfl, st14.ext⟩
    ·
     refine RP_at (m' := [(1, .string k), (2, a5), (19, .bool false)]) (by rw [c19_12]) ?_
     refine RP_sg 2 [.no, .no] [(19, .bool false), (20, undef), (21, undef)] trivial ?_
     refine RP_no rfl rfl (by decide) ?_
     refine RP_sg 2 [.p (.bool false), .p (.bool false)] [(4, .bool false)] trivial ?_
     refine RP_nil <| n_then <| W_ret <| ret_of (P := Tryd.prog) (fn := Tryd.f58) (m := [(4, .bool false)]) (w := w7) (res1 rfl (rv_tmp rfl)) ?_
     exact ⟨by (try rw [c8_10]); (try rw [c13_11]); (try rw [c19_12]); rfl, st8.ext⟩
   ·
    have c13_11p := of_decide_eq_false c13_11
    refine RP_at (m' := [(1, .string k), (2, a5), (13, .bool false)]) (by rw [c13_11]) ?_
    refine RP_sg 8 [.no, .no, .no, .no, .p (.bool false), .p (.bool false), .no, .no] [(19, .bool false), (20, undef), (21, undef)] trivial ?_
    refine RP_no rfl rfl (by decide) ?_
    refine RP_sg 2 [.p (.bool false), .p (.bool false)] [(4, .bool false)] trivial ?_
    refine RP_nil <| n_then <| W_ret <| ret_of (P := Tryd.prog) (fn := Tryd.f58) (m := [(4, .bool false)]) (w := w7) (res1 rfl (rv_tmp rfl)) ?_
    exact ⟨by (try rw [c8_10]); (try rw [c13_11]); rfl, st8.ext⟩
  ·
   refine RP_at (m' := [(1, .string k), (2, a5), (8, .bool false)]) (by rw [c8_10]) ?_
   refine RP_sg 13 [.no, .no, .no, .p (.bool false), .p (.bool false), .no, .no, .no, .no, .p (.bool false), .p (.bool false), .no, .no] [(19, .bool false), (20, undef), (21, undef)] trivial ?_
   refine RP_no rfl rfl (by decide) ?_
   refine RP_sg 2 [.p (.bool false), .p (.bool false)] [(4, .bool false)] trivial ?_
   refine RP_nil <| n_then <| W_ret <| ret_of (P := Tryd.prog) (fn := Tryd.f58) (m := [(4, .bool false)]) (w := w7) (res1 rfl (rv_tmp rfl)) ?_
   exact ⟨by (try rw [c8_10]); rfl, st8.ext⟩
def T.rankHi (t : T) (r : Rng) : Nat := cond r.op t.size (t.rank r.hi)
theorem storeRank_cr {w : World} {gs bm bt : Nat} {p : Option Addr} {node clock j : Int} {t : T} (r : Rng) (hS : Sto w gs bm bt p node clock j t) (hs : t.size ≤ 10000) :
    CR Tryd.prog 69 [.pointer (some ⟨gs, 0, none⟩), r.v] w fun v w' => v = .tuple #[.int .i64 (t.rank r.lo : Nat), .int .i64 (t.rankHi r : Nat)] ∧ Ext [] w w' := by
  have st := St.init w []
  unfold T.rankHi
  have hb := hS.blk
  have hTr := hS.tr
  have hT := hS.ist
  refine CR_enter Tryd.func69 rfl Tryd.ntmps69 rfl ?_
  refine W_seq <| W_region <| RP_e rfl (ef_box st rfl rfl) ?_
  rintro _ w1 ⟨g4, rfl, hg4, hg4', st2, hx3⟩
  replace st2 : St [] w w1 [(g4, 24, [.string r.lo, .string r.hi, .bool r.op])] := st2
  replace hTr := hTr.ext hx3 (by simp)
  replace hT := hT.to hx3 (NoNode.nil _)
  let a5 : Value := .pointer (some ⟨gs, 0, none⟩)
  let a6 : Value := .pointer (some ⟨g4, 0, none⟩)
  refine RP_sg 2 [.p (.int .i64 0), .p (.int .i64 0)] [(0, a5), (3, a6)] trivial ?_
  refine RP_nil <| n_then <| W_seq <| W_seq <| W_region <| RP_sg 2 [.p (.pointer (some ⟨g4, 2, none⟩)), .l 4 (.pointer (some ⟨g4, 2, none⟩)) (.bool r.op)] [(0, a5), (3, a6), (7, .bool r.op)] ⟨ld1 st2 nagg_4 0 rfl rfl, trivial⟩ ?_
  refine RP_nil <| n_then <| W_cond rfl (fun c7_7 => ?_) (fun c7_7 => ?_)
  ·
   refine W_seq <| W_regionS ⟨(fun w' => Blk w' g4 24 [.string r.lo, .string r.hi, .bool r.op].toArray ∧ Blk w' gs 129 [.int .i64 node, .int .i64 clock, .pointer (some ⟨bm, 0, none⟩), .pointer (some ⟨bt, 0, none⟩)].toArray), (fun _ => True)⟩ (.cons 1 0 (.cons 1 1 (.cons 1 2 (.cons 1 3 (.cons 1 4 (.cons 1 5 (.cons 1 7 (.cons 1 8 (.cons 1 9 (.cons 1 10 (.cons 2 6 (.cons 2 11 (.cons 1 12 (.cons 0 13 .nil)))))))))))))) 14 (by kernel_rfl) (by kernel_rfl) ?_
   have st8 := st2.drew
   replace hTr := hTr.drew
   replace hT := hT.drew
   let a9 : Value := .pointer (some ⟨bt, 0, none⟩)
   refine RS_sg 10 [.p a5, .p a5, .p (.pointer (some ⟨gs, 3, none⟩)), .l 127 (.pointer (some ⟨gs, 3, none⟩)) a9, .p a6, .l 9 a6 (.string r.lo), .p a5, .p a5, .p (.pointer (some ⟨gs, 3, none⟩)), .l 127 (.pointer (some ⟨gs, 3, none⟩)) a9] [(11, a9), (13, .string r.lo), (18, a9)] (⟨st8.get 0 rfl, hb.ext st8.ext List.not_mem_nil⟩) (fun _ hS => ⟨ld1b (hS.2) nagg_127 rfl, ld1b (hS.1) nagg_9 rfl, ld1b (hS.2) nagg_127 rfl, trivial⟩) ?_
   refine RS_e rfl rfl (ef_call (k := 115) (args := [a9, .string r.lo]) (rank_cr r.lo hTr hT (by omega)) body_115 (by kernel_rfl)) ?_
   rintro _ _ ⟨_, rfl, rfl, rfl⟩
   refine ⟨⟨st8.get 0 rfl, hb.ext st8.ext List.not_mem_nil⟩, ?_⟩
   refine RS_e rfl rfl (ef_call (k := 111) (args := [a9]) (len_cr hTr hT) body_111 (by kernel_rfl)) ?_
   rintro _ _ ⟨_, rfl, rfl, rfl⟩
   refine ⟨⟨st8.get 0 rfl, hb.ext st8.ext List.not_mem_nil⟩, ?_⟩
   refine RS_sg 1 [.p (.int .i64 ((t.rank r.lo : Nat) : Int))] [(4, .int .i64 ((t.rank r.lo : Nat) : Int)), (19, .int .i64 ((t.size : Nat) : Int))] (⟨st8.get 0 rfl, hb.ext st8.ext List.not_mem_nil⟩) (fun _ hS => trivial) ?_
   refine RS_sgP 1 [.p (.int .i64 ((t.size : Nat) : Int))] [(4, .int .i64 ((t.rank r.lo : Nat) : Int)), (5, .int .i64 ((t.size : Nat) : Int))] (fun _ => trivial) ?_
   refine RS_nil <| n_then <| W_ret <| r_then ?_
   refine ret_of (P := Tryd.prog) (fn := Tryd.f69) (m := [(4, .int .i64 ((t.rank r.lo : Nat) : Int)), (5, .int .i64 ((t.size : Nat) : Int))]) (w := w1.drew) (res2 rfl (rv_tmp rfl) (rv_tmp rfl)) ?_
   exact ⟨by (try rw [c7_7]); rfl, st8.ext⟩
  ·
   refine W_skip <| n_then <| W_seq <| W_regionS ⟨(fun w' => Blk w' g4 24 [.string r.lo, .string r.hi, .bool r.op].toArray ∧ Blk w' gs 129 [.int .i64 node, .int .i64 clock, .pointer (some ⟨bm, 0, none⟩), .pointer (some ⟨bt, 0, none⟩)].toArray), (fun _ => True)⟩ (.cons 1 0 (.cons 1 1 (.cons 1 2 (.cons 1 3 (.cons 1 4 (.cons 1 5 (.cons 1 7 (.cons 1 8 (.cons 1 9 (.cons 1 10 (.cons 1 11 (.cons 1 12 (.cons 2 6 (.cons 2 13 (.cons 1 14 (.cons 0 15 .nil)))))))))))))))) 16 (by kernel_rfl) (by kernel_rfl) ?_
   have st16 := st2.drew
   replace hTr := hTr.drew
   replace hT := hT.drew
   let a17 : Value := .pointer (some ⟨bt, 0, none⟩)
   refine RS_sg 12 [.p a5, .p a5, .p (.pointer (some ⟨gs, 3, none⟩)), .l 127 (.pointer (some ⟨gs, 3, none⟩)) a17, .p a6, .l 9 a6 (.string r.lo), .p a5, .p a5, .p (.pointer (some ⟨gs, 3, none⟩)), .l 127 (.pointer (some ⟨gs, 3, none⟩)) a17, .p (.pointer (some ⟨g4, 1, none⟩)), .l 9 (.pointer (some ⟨g4, 1, none⟩)) (.string r.hi)] [(23, a17), (25, .string r.lo), (30, a17), (32, .string r.hi)] (⟨st16.get 0 rfl, hb.ext st16.ext List.not_mem_nil⟩) (fun _ hS => ⟨ld1b (hS.2) nagg_127 rfl, ld1b (hS.1) nagg_9 rfl, ld1b (hS.2) nagg_127 rfl, ld1b (hS.1) nagg_9 rfl, trivial⟩) ?_
   refine RS_e rfl rfl (ef_call (k := 115) (args := [a17, .string r.lo]) (rank_cr r.lo hTr hT (by omega)) body_115 (by kernel_rfl)) ?_
   rintro _ _ ⟨_, rfl, rfl, rfl⟩
   refine ⟨⟨st16.get 0 rfl, hb.ext st16.ext List.not_mem_nil⟩, ?_⟩
   refine RS_e rfl rfl (ef_call (k := 115) (args := [a17, .string r.hi]) (rank_cr r.hi hTr hT (by omega)) body_115 (by kernel_rfl)) ?_
   rintro _ _ ⟨_, rfl, rfl, rfl⟩
   refine ⟨⟨st16.get 0 rfl, hb.ext st16.ext List.not_mem_nil⟩, ?_⟩
   refine RS_sg 1 [.p (.int .i64 ((t.rank r.lo : Nat) : Int))] [(4, .int .i64 ((t.rank r.lo : Nat) : Int)), (33, .int .i64 ((t.rank r.hi : Nat) : Int))] (⟨st16.get 0 rfl, hb.ext st16.ext List.not_mem_nil⟩) (fun _ hS => trivial) ?_
   refine RS_sgP 1 [.p (.int .i64 ((t.rank r.hi : Nat) : Int))] [(4, .int .i64 ((t.rank r.lo : Nat) : Int)), (5, .int .i64 ((t.rank r.hi : Nat) : Int))] (fun _ => trivial) ?_
   refine RS_nil <| n_then <| W_ret <| ret_of (P := Tryd.prog) (fn := Tryd.f69) (m := [(4, .int .i64 ((t.rank r.lo : Nat) : Int)), (5, .int .i64 ((t.rank r.hi : Nat) : Int))]) (w := w1.drew) (res2 rfl (rv_tmp rfl) (rv_tmp rfl)) ?_
   exact ⟨by (try rw [c7_7]); rfl, st16.ext⟩
theorem T.rankHi_le (t : T) (r : Rng) : t.rankHi r ≤ t.size := by
  unfold T.rankHi; cases r.op
  · exact T.rank_le _ _
  · exact Nat.le_refl _
end Go.Proofs.YtcopemgkjbaaeaaDoor
namespace Go.Proofs.YtcopemgkjbaaeaaDoor
set_option linter.all false
open Go.RowKit
section
variable {P : Program} {m : SM} {w : World} {dst : Option Nat} {ty : TypeId} {pos : String} {af : Array Edge} {gd : Option (Nat × Bool)}
def EqB (P : Program) (t : TypeId) (k : Nat) (x y : Value) (b : Bool) : Prop := ∀ d w, (Op.equalIn (d + k) t x y).run P w = .ok b w
theorem EqB.up {t : TypeId} {k : Nat} {x y : Value} {b : Bool} (h : EqB P t k x y b) (j : Nat) : EqB P t (k + j) x y b := fun d w => by rw [show d + (k + j) = d + j + k from by omega]; exact h _ w
theorem eqf_last {d : Nat} {xs ys : Array Value} {f : Field} {a b : Value} {r : Bool} (hn : (f.name == "_") = false) (ha : (part f.type xs f.offset).run P w = .ok a w) (hb : (part f.type ys f.offset).run P w = .ok b w) (he : (Op.equalIn d f.type a b).run P w = .ok r w) : (Op.eqFields d xs ys [f]).run P w = .ok r w := by
  have hn' : f.name ≠ "_" := by simpa using hn
  simp only [Op.eqFields, if_pos hn', Sem.run_bind, ha, hb, he, Result.andThen_ok]
  cases r <;> simp
theorem eqf_cons {d : Nat} {xs ys : Array Value} {f : Field} {fs : List Field} {a b : Value} {r s : Bool} (hn : (f.name == "_") = false) (ha : (part f.type xs f.offset).run P w = .ok a w) (hb : (part f.type ys f.offset).run P w = .ok b w) (he : (Op.equalIn d f.type a b).run P w = .ok r w) (hr : (Op.eqFields d xs ys fs).run P w = .ok s w) : (Op.eqFields d xs ys (f :: fs)).run P w = .ok (r && s) w := by
  have hn' : f.name ≠ "_" := by simpa using hn
  rw [Op.eqFields]
  simp only [if_pos hn', Sem.run_bind, ha, hb, he, Result.andThen_ok]
  cases r
  · simp
  · simpa using hr
theorem eqA {t : TypeId} {fs : Array Field} {k : Nat} {xs ys : Array Value} {r : Bool} (hu : P.underlying t = some (.struct fs)) (hp : P.stoodInHeld t = false) (h : ∀ d w, (Op.eqFields (d + k) xs ys fs.toList).run P w = .ok r w) : EqB P t (k + 1) (.agg xs) (.agg ys) r := fun d w => by
  have hf : P.fieldsOf t = fs := by simp [Program.fieldsOf, hu]
  rw [show d + (k + 1) = (d + k) + 1 from by omega, run_equalIn_struct (P := P) w (d + k) t xs ys (by rw [hf]; exact hu) hp, hf]
  exact h d w
theorem eqI {t : TypeId} {k k' : IntKind} {a b : Int} (h : P.underlying t = some (.int k')) : EqB P t 1 (.int k a) (.int k b) (a == b) := fun d w => run_equalIn_int (P := P) w d t k k' a b h
theorem eqBo {t : TypeId} {a b : Bool} (h : P.underlying t = some .bool) : EqB P t 1 (.bool a) (.bool b) (a == b) := fun d w => run_equalIn_bool' (P := P) w d t a b h
theorem eqS {t : TypeId} {a b : ByteArray} (h : P.underlying t = some .string) : EqB P t 1 (.string a) (.string b) (a.toList == b.toList) := fun d w => run_equalIn_string (P := P) w d t a b h
theorem ev_eql {t t' : TypeId} {x y : Operand} {xs ys : Array Value} {b : Bool} {k : Nat} (h : EqB P t k (.agg xs) (.agg ys) b) (hk : k ≤ 10000) (hm : P.eqGuardType P.depth t = false) (hx : opv m x = some (.agg xs)) (hy : opv m y = some (.agg ys)) :
    Ev P m ⟨dst, .binOp .eql t x y t', ty, pos, af, gd⟩ w (.bool b) := fun ρ hρ => by
  have h1 := run_eqGuard_agg (P := P) w .eql t x y xs ys hm
  have h2 := h (10000 - k) w
  rw [show 10000 - k + k = 10000 from by omega] at h2
  simp only [execOp, hρ.get hx, hρ.get hy]
  simp [h1, run_eql_struct, h2]
theorem ev_neq {t t' : TypeId} {x y : Operand} {xs ys : Array Value} {b : Bool} {k : Nat} (h : EqB P t k (.agg xs) (.agg ys) b) (hk : k ≤ 10000) (hm : P.eqGuardType P.depth t = false) (hx : opv m x = some (.agg xs)) (hy : opv m y = some (.agg ys)) :
    Ev P m ⟨dst, .binOp .neq t x y t', ty, pos, af, gd⟩ w (.bool !b) := fun ρ hρ => by
  have h1 := run_eqGuard_agg (P := P) w .neq t x y xs ys hm
  have h2 := h (10000 - k) w
  rw [show 10000 - k + k = 10000 from by omega] at h2
  simp only [execOp, hρ.get hx, hρ.get hy]
  simp [h1, run_neq_struct, h2]
end
theorem eqSum (a b c d : Int) : EqB Tryd.prog 30 2 (.agg #[.int .u64 a, .int .u64 b]) (.agg #[.int .u64 c, .int .u64 d]) (a == c && b == d) := fun k w => by
  have hu : (Tryd.prog).underlying 30 = some (.array 2 28) := by kernel_rfl
  have hi : (Tryd.prog).info? 28 = some Tryd.t28 := by kernel_rfl
  have hk : (Tryd.prog).underlying 28 = some (.int .u64) := by kernel_rfl
  have hc : (Tryd.prog).cellsOf 28 = 1 := by kernel_rfl
  rw [show k + 2 = (k + 1) + 1 from rfl, run_equalIn_array w (k + 1) _ _ hu hi, hc]
  have p0 : ∀ (x y : Int) (w : World), (part 28 #[.int .u64 x, .int .u64 y] 0).run Tryd.prog w = .ok (.int .u64 x) w := fun x y w => by kernel_rfl
  have p1 : ∀ (x y : Int) (w : World), (part 28 #[.int .u64 x, .int .u64 y] 1).run Tryd.prog w = .ok (.int .u64 y) w := fun x y w => by kernel_rfl
  have e : ∀ (x y : Int) (w : World), (Op.equalIn (k + 1) 28 (.int .u64 x) (.int .u64 y)).run Tryd.prog w = .ok (x == y) w := fun x y w => eqI hk k w
  simp only [show List.range 2 = [0, 1] from rfl, Op.eqItems, Sem.run_bind, p0, p1, e, Result.andThen_ok]
  cases (a == c) <;> cases h : (b == d) <;> simp [p1, e, Op.eqItems, h]
def Tal.eq (s t : Tal) : Bool := s.k == t.k && (s.a == t.a && s.b == t.b)
theorem eqTal (s t : Tal) : EqB Tryd.prog 32 3 s.v t.v (Tal.eq s t) :=
  eqA (k := 2) (fs := #[⟨"Count", 3, 0, false, "", "", 0⟩, ⟨"Sum", 30, 1, false, "", "", 8⟩]) (by kernel_rfl) (by kernel_rfl) fun d w =>
    eqf_cons (a := .int .i64 s.k) (b := .int .i64 t.k) rfl (by kernel_rfl) (by kernel_rfl) ((eqI (k' := .i64) (by kernel_rfl)).up 1 d w) (eqf_last (a := .agg #[.int .u64 s.a, .int .u64 s.b]) (b := .agg #[.int .u64 t.a, .int .u64 t.b]) rfl (by kernel_rfl) (by kernel_rfl) (eqSum _ _ _ _ d w))
end Go.Proofs.YtcopemgkjbaaeaaDoor
namespace Go.Proofs.YtcopemgkjbaaeaaDoor
set_option linter.all false
open Go.RowKit
structure Prt where
  k : Int
  r : Rng
  t : Tal
  es : List Ent
  eb : Option Addr
  ec : Nat
def Prt.cells (p : Prt) : List Value := [.int .i64 p.k, .string p.r.lo, .string p.r.hi, .bool p.r.op, .int .i64 p.t.k, .int .u64 p.t.a, .int .u64 p.t.b, .slice p.eb p.es.length p.ec]
def Prt.v (p : Prt) : Value := .agg p.cells.toArray
def prtCells (l : List Prt) : List Value := l.flatMap Prt.cells
theorem prtCells_len : ∀ l : List Prt, (prtCells l).length = l.length * 8
  | [] => rfl
  | e :: l => by have := prtCells_len l; simp only [prtCells, List.flatMap_cons, List.length_append, List.length_cons, Prt.cells, List.length_nil] at *; omega
theorem prtCells_at : ∀ {l : List Prt} {e : Prt} {n : Nat}, l[n]? = some e → ((prtCells l).drop (n * 8)).take 8 = e.cells
  | [], _, _, h => by simp at h
  | a :: l, e, 0, h => by simp at h; subst h; simp [prtCells, Prt.cells]
  | a :: l, e, n + 1, h => by
    have ih := prtCells_at (l := l) (e := e) (n := n) (by simpa using h)
    rw [← ih]
    simp only [prtCells, List.flatMap_cons, Prt.cells]
    rw [show (n + 1) * 8 = 8 + n * 8 from by omega, ← List.drop_drop]
    rfl
theorem prtCells_f {l : List Prt} {e : Prt} {n k : Nat} {v : Value} (h : l[n]? = some e) (hk : k < 8) (hv : e.cells[k]? = some v) : (prtCells l)[n * 8 + k]? = some v := by
  have := prtCells_at h
  rw [← this, List.getElem?_take, if_pos hk, List.getElem?_drop] at hv
  exact hv
def Prt.fields (p : Prt) : Int := cond (p.k == 1) (cond (((p.es.length : Nat) : Int) == 0) 0 114) (cond (p.k == 2 || p.k == 3) (cond (Tal.eq p.t Tal.zero) 0 114) 114)
theorem checkFields_cr (p : Prt) (w : World) : CR Tryd.prog 105 [p.v] w fun v w' => v = .int .i64 p.fields ∧ Ext [] w w' := by
  have st := St.init w []
  unfold Prt.fields
  refine CR_enter Tryd.func105 rfl Tryd.ntmps105 rfl ?_
  refine W_seq <| W_region <| RP_e rfl (ef_box st rfl rfl) ?_
  rintro _ w1 ⟨g4, rfl, hg4, hg4', st2, hx3⟩
  replace st2 : St [] w w1 [(g4, 34, [.int .i64 p.k, .string p.r.lo, .string p.r.hi, .bool p.r.op, .int .i64 p.t.k, .int .u64 p.t.a, .int .u64 p.t.b, .slice p.eb p.es.length p.ec])] := st2
  let a5 : Value := .pointer (some ⟨g4, 0, none⟩)
  refine RP_sg 1 [.p (.int .i64 0)] [(1, a5)] trivial ?_
  refine RP_nil <| n_then <| W_seq <| W_seq <| W_region <| RP_sg 2 [.p a5, .l 3 a5 (.int .i64 p.k)] [(1, a5), (4, .int .i64 p.k)] ⟨ld1 st2 nagg_3 0 rfl rfl, trivial⟩ ?_
  refine RP_nil <| n_then <| W_block <| W_seq <| W_region <| RP_sg 2 [.p (.bool (p.k == 1)), .p (.bool (p.k == 1))] [(1, a5), (4, .int .i64 p.k), (5, .bool (p.k == 1))] trivial ?_
  refine RP_nil <| n_then <| W_cond rfl (fun c5_6 => ?_) (fun c5_6 => ?_)
  ·
   refine W_seq <| W_region <| RP_sg 4 [.p (.pointer (some ⟨g4, 7, none⟩)), .l 22 (.pointer (some ⟨g4, 7, none⟩)) (.slice p.eb p.es.length p.ec), .p (.int .i64 ((p.es.length : Nat) : Int)), .p (.bool (((p.es.length : Nat) : Int) == 0))] [(10, .bool (((p.es.length : Nat) : Int) == 0))] ⟨ld1 st2 nagg_22 0 rfl rfl, trivial⟩ ?_
   refine RP_nil <| n_then <| W_cond rfl (fun c10_7 => ?_) (fun c10_7 => ?_)
   ·
    refine W_seq <| W_region <| RP_sg 1 [.p (.int .i64 0)] [(2, .int .i64 0)] trivial ?_
    refine RP_nil <| n_then <| W_ret <| r_block <| r_then ?_
    refine ret_of (P := Tryd.prog) (fn := Tryd.f105) (m := [(2, .int .i64 0)]) (w := w1) (res1 rfl (rv_tmp rfl)) ?_
    exact ⟨by (try rw [c5_6]); (try rw [c10_7]); rfl, st2.ext⟩
   ·
    refine W_skip <| n_block <| n_then <| W_seq <| W_region <| RP_sg 1 [.p (.int .i64 114)] [(2, .int .i64 114)] trivial ?_
    refine RP_nil <| n_then <| W_ret <| ret_of (P := Tryd.prog) (fn := Tryd.f105) (m := [(2, .int .i64 114)]) (w := w1) (res1 rfl (rv_tmp rfl)) ?_
    exact ⟨by (try rw [c5_6]); (try rw [c10_7]); rfl, st2.ext⟩
  ·
   refine W_seq <| W_seq <| W_region <| RP_sg 2 [.p (.bool (p.k == 2)), .p (.bool (p.k == 2))] [(1, a5), (4, .int .i64 p.k), (11, .bool (p.k == 2))] trivial ?_
   refine RP_nil <| n_then <| W_cond rfl (fun c11_8 => ?_) (fun c11_8 => ?_)
   ·
    refine W_skip <| n_then <| W_true' rfl c11_8 ?_
    refine W_seq <| W_region ?_
    let a9 : Value := .agg #[.int .i64 p.t.k, .int .u64 p.t.a, .int .u64 p.t.b]
    let a10 : Value := .agg #[.int .i64 0, .int .u64 0, .int .u64 0]
    refine RP_sg 3 [.p (.pointer (some ⟨g4, 4, none⟩)), .l 32 (.pointer (some ⟨g4, 4, none⟩)) a9, .p a10] [(15, a9), (16, a10)] ⟨ldN st2 agg_32 0 rfl rfl rfl, trivial⟩ ?_
    refine RP_q rfl (v := .bool (Tal.eq p.t Tal.zero)) (ev_eql (eqTal p.t Tal.zero) (by decide) (by kernel_rfl) rfl rfl) ?_
    refine RP_pk [(17, .bool (Tal.eq p.t Tal.zero))] ?_
    refine RP_nil <| n_then <| W_cond rfl (fun c17_11 => ?_) (fun c17_11 => ?_)
    ·
     refine W_seq <| W_region <| RP_sg 1 [.p (.int .i64 0)] [(2, .int .i64 0)] trivial ?_
     refine RP_nil <| n_then <| W_ret <| r_block <| r_then ?_
     refine ret_of (P := Tryd.prog) (fn := Tryd.f105) (m := [(2, .int .i64 0)]) (w := w1) (res1 rfl (rv_tmp rfl)) ?_
     exact ⟨by (try rw [c5_6]); (try rw [c11_8]); (try rw [c17_11]); rfl, st2.ext⟩
    ·
     refine W_skip <| n_block <| n_then <| W_seq <| W_region <| RP_sg 1 [.p (.int .i64 114)] [(2, .int .i64 114)] trivial ?_
     refine RP_nil <| n_then <| W_ret <| ret_of (P := Tryd.prog) (fn := Tryd.f105) (m := [(2, .int .i64 114)]) (w := w1) (res1 rfl (rv_tmp rfl)) ?_
     exact ⟨by (try rw [c5_6]); (try rw [c11_8]); (try rw [c17_11]); rfl, st2.ext⟩
   ·
    refine W_region <| RP_sg 2 [.p (.bool (p.k == 3)), .p (.bool (p.k == 3))] [(1, a5), (11, .bool (p.k == 3))] trivial ?_
    refine RP_nil <| n_then <| W_cond rfl (fun c11_12 => ?_) (fun c11_12 => ?_)
    ·
     refine W_seq <| W_region ?_
     let a13 : Value := .agg #[.int .i64 p.t.k, .int .u64 p.t.a, .int .u64 p.t.b]
     let a14 : Value := .agg #[.int .i64 0, .int .u64 0, .int .u64 0]
     refine RP_sg 3 [.p (.pointer (some ⟨g4, 4, none⟩)), .l 32 (.pointer (some ⟨g4, 4, none⟩)) a13, .p a14] [(15, a13), (16, a14)] ⟨ldN st2 agg_32 0 rfl rfl rfl, trivial⟩ ?_
     refine RP_q rfl (v := .bool (Tal.eq p.t Tal.zero)) (ev_eql (eqTal p.t Tal.zero) (by decide) (by kernel_rfl) rfl rfl) ?_
     refine RP_pk [(17, .bool (Tal.eq p.t Tal.zero))] ?_
     refine RP_nil <| n_then <| W_cond rfl (fun c17_15 => ?_) (fun c17_15 => ?_)
     ·
      refine W_seq <| W_region <| RP_sg 1 [.p (.int .i64 0)] [(2, .int .i64 0)] trivial ?_
      refine RP_nil <| n_then <| W_ret <| r_block <| r_then ?_
      refine ret_of (P := Tryd.prog) (fn := Tryd.f105) (m := [(2, .int .i64 0)]) (w := w1) (res1 rfl (rv_tmp rfl)) ?_
      exact ⟨by (try rw [c5_6]); (try rw [c11_8]); (try rw [c11_12]); (try rw [c17_15]); rfl, st2.ext⟩
     ·
      refine W_skip <| n_block <| n_then <| W_seq <| W_region <| RP_sg 1 [.p (.int .i64 114)] [(2, .int .i64 114)] trivial ?_
      refine RP_nil <| n_then <| W_ret <| ret_of (P := Tryd.prog) (fn := Tryd.f105) (m := [(2, .int .i64 114)]) (w := w1) (res1 rfl (rv_tmp rfl)) ?_
      exact ⟨by (try rw [c5_6]); (try rw [c11_8]); (try rw [c11_12]); (try rw [c17_15]); rfl, st2.ext⟩
    ·
     refine W_skip <| n_block <| n_then <| W_seq <| W_region <| RP_sg 1 [.p (.int .i64 114)] [(2, .int .i64 114)] trivial ?_
     refine RP_nil <| n_then <| W_ret <| ret_of (P := Tryd.prog) (fn := Tryd.f105) (m := [(2, .int .i64 114)]) (w := w1) (res1 rfl (rv_tmp rfl)) ?_
     exact ⟨by (try rw [c5_6]); (try rw [c11_8]); (try rw [c11_12]); rfl, st2.ext⟩
def entE (p : Prt) (q : Option Ent) (e : Ent) : Int := cond (e.check != 0) e.check (cond (!(p.r.holds e.key)) 116 (cond (match q with | some q => !(Op.bytesLess q.key.toList e.key.toList) | none => false) 116 0))
def entsE (p : Prt) : Option Ent → List Ent → Int
  | _, [] => 0
  | q, e :: l => cond (entE p q e != 0) (entE p q e) (entsE p (some e) l)
theorem entsE_drop (p : Prt) (l : List Ent) {i : Nat} {e : Ent} (he : l[i]? = some e) : entsE p (prevE l i) (l.drop i) = cond (entE p (prevE l i) e != 0) (entE p (prevE l i) e) (entsE p (prevE l (i + 1)) (l.drop (i + 1))) := by
  obtain ⟨h1, h2⟩ := List.getElem?_eq_some_iff.1 he
  rw [List.drop_eq_getElem_cons h1, h2, entsE]
  congr 2
  simp [prevE, he]
def Prt.entries (p : Prt) : Int := cond (entsE p none p.es != 0) (entsE p none p.es) (cond (p.k == 3 && (((p.es.length : Nat) : Int) == 0)) 116 0)
theorem checkEntries_cr {w : World} (p : Prt) (hin : InS w p.eb (entCells p.es)) (hlen : p.es.length < 1000000) : CR Tryd.prog 106 [p.v] w fun v w' => v = .int .i64 p.entries ∧ Ext [] w w' := by
  have st := St.init w []
  unfold Prt.entries
  refine CR_enter Tryd.func106 rfl Tryd.ntmps106 rfl ?_
  refine W_seq <| W_region <| RP_e rfl (ef_box st rfl rfl) ?_
  rintro _ w1 ⟨g4, rfl, hg4, hg4', st2, hx3⟩
  replace st2 : St [] w w1 [(g4, 34, [.int .i64 p.k, .string p.r.lo, .string p.r.hi, .bool p.r.op, .int .i64 p.t.k, .int .u64 p.t.a, .int .u64 p.t.b, .slice p.eb p.es.length p.ec])] := st2
  let a5 : Value := .pointer (some ⟨g4, 0, none⟩)
  refine RP_sg 1 [.p (.int .i64 0)] [(1, a5)] trivial ?_
  refine RP_nil <| n_then <| W_seq <| W_seq <| W_region ?_
  let a6 : Value := .slice p.eb p.es.length p.ec
  refine RP_sg 4 [.p (.pointer (some ⟨g4, 7, none⟩)), .l 22 (.pointer (some ⟨g4, 7, none⟩)) a6, .p (.int .i64 ((p.es.length : Nat) : Int)), .p (.int .i64 0)] [(1, a5), (7, a6), (8, .int .i64 ((p.es.length : Nat) : Int)), (9, .int .i64 0)] ⟨ld1 st2 nagg_22 0 rfl rfl, trivial⟩ ?_
  refine RP_nil <| n_then <| W_block <| W_loop (fun k_ m_ w_ => ∃ (i : Nat), p.es.length - i = k_ ∧ m_ = [(1, a5), (7, a6), (8, .int .i64 ((p.es.length : Nat) : Int)), (9, .int .i64 ((i : Nat) : Int))] ∧ St [] w w_ [(g4, 34, [.int .i64 p.k, .string p.r.lo, .string p.r.hi, .bool p.r.op, .int .i64 p.t.k, .int .u64 p.t.a, .int .u64 p.t.b, .slice p.eb p.es.length p.ec])] ∧ i ≤ p.es.length ∧ entsE p (prevE p.es i) (p.es.drop i) = entsE p none p.es) ⟨0, rfl, rfl, st2, Nat.zero_le _, rfl⟩ ?_
  rintro _ _ w8 ⟨i, rfl, rfl, st7, hil, hle⟩
  refine W_seq <| W_region <| RP_sg 1 [.p (.bool (decide (((i : Nat) : Int) < ((p.es.length : Nat) : Int))))] [(1, a5), (7, a6), (8, .int .i64 ((p.es.length : Nat) : Int)), (9, .int .i64 ((i : Nat) : Int)), (10, .bool (decide (((i : Nat) : Int) < ((p.es.length : Nat) : Int))))] trivial ?_
  refine RP_nil <| n_then <| W_seq <| W_cond rfl (fun c10_9 => ?_) (fun c10_9 => ?_)
  ·
   have c10_9p := of_decide_eq_true c10_9
   refine W_skip <| n_then <| W_seq <| W_block <| W_seq <| W_region <| RP_sg 1 [.p (.int .i64 ((i : Nat) : Int))] [(1, a5), (7, a6), (8, .int .i64 ((p.es.length : Nat) : Int)), (9, .int .i64 ((i : Nat) : Int)), (11, .int .i64 ((i : Nat) : Int))] trivial ?_
   have hlt : i < p.es.length := by omega
   obtain ⟨e, he⟩ : ∃ e, p.es[i]? = some e := ⟨p.es[i], by simp [hlt]⟩
   have hbs := hin.some_ (by rw [entCells_len]; omega)
   refine RP_q rfl (v := .pointer (some ⟨(sp p.eb), so p.eb + i * 5, none⟩)) (ev_indexI idxEnt rfl rfl hbs hlt) ?_
   let a10 : Value := .agg #[.string e.key, .int .i64 e.c, .int .i64 e.n, .string e.val, .bool e.dead]
   refine RP_sg 1 [.l 61 (.pointer (some ⟨(sp p.eb), so p.eb + i * 5, none⟩)) a10] [(1, a5), (7, a6), (8, .int .i64 ((p.es.length : Nat) : Int)), (9, .int .i64 ((i : Nat) : Int)), (11, .int .i64 ((i : Nat) : Int)), (13, a10)] ⟨InS.loadN agg_61 (hin.ext0 st7.ext) (entCells_at he) rfl (by decide), trivial⟩ ?_
   refine RP_e rfl (ef_alloc st7 zero_61 rfl) ?_
   rintro _ w11 ⟨g14, rfl, hg14, hg14', st12, hx13⟩
   replace st12 : St [] w w11 [(g14, 61, [.string (⟨#[]⟩ : ByteArray), .int .i64 0, .int .i64 0, .string (⟨#[]⟩ : ByteArray), .bool false]), (g4, 34, [.int .i64 p.k, .string p.r.lo, .string p.r.hi, .bool p.r.op, .int .i64 p.t.k, .int .u64 p.t.a, .int .u64 p.t.b, .slice p.eb p.es.length p.ec])] := st12
   let a15 : Value := .pointer (some ⟨g14, 0, none⟩)
   refine RP_sg 1 [.p (.int .i64 ((i : Nat) : Int))] [(1, a5), (3, .int .i64 ((i : Nat) : Int)), (4, a15), (7, a6), (8, .int .i64 ((p.es.length : Nat) : Int)), (9, .int .i64 ((i : Nat) : Int)), (13, a10)] trivial ?_
   refine RP_e rfl (ef_store st12 rfl rfl rfl size_61 0 rfl rfl rfl rfl (.inr hg14)) ?_
   rintro _ w16 ⟨rfl, st17, hx18⟩
   replace st17 : St [] w w16 [(g14, 61, [.string e.key, .int .i64 e.c, .int .i64 e.n, .string e.val, .bool e.dead]), (g4, 34, [.int .i64 p.k, .string p.r.lo, .string p.r.hi, .bool p.r.op, .int .i64 p.t.k, .int .u64 p.t.a, .int .u64 p.t.b, .slice p.eb p.es.length p.ec])] := st17
   refine RP_pk [(1, a5), (3, .int .i64 ((i : Nat) : Int)), (4, a15), (7, a6), (8, .int .i64 ((p.es.length : Nat) : Int)), (9, .int .i64 ((i : Nat) : Int))] ?_
   refine RP_nil <| n_then <| W_seq <| W_seq <| W_region <| RP_sg 1 [.l 61 a15 a10] [(1, a5), (3, .int .i64 ((i : Nat) : Int)), (4, a15), (7, a6), (8, .int .i64 ((p.es.length : Nat) : Int)), (9, .int .i64 ((i : Nat) : Int)), (14, a10)] ⟨ldN st17 agg_61 0 rfl rfl rfl, trivial⟩ ?_
   refine RP_e rfl (ef_call (k := 63) (args := [a10]) (itemCheck_cr e _) body_63 (by kernel_rfl)) ?_
   rintro _ w19 ⟨_, rfl, rfl, hx21⟩
   have st20 := st17.call0 hx21
   refine RP_sg 1 [.p (.int .i64 e.check)] [(1, a5), (3, .int .i64 ((i : Nat) : Int)), (4, a15), (5, .int .i64 e.check), (7, a6), (8, .int .i64 ((p.es.length : Nat) : Int)), (9, .int .i64 ((i : Nat) : Int))] trivial ?_
   refine RP_nil <| n_then <| W_seq <| W_region <| RP_sg 2 [.p (.int .i64 e.check), .p (.bool (e.check != 0))] [(1, a5), (3, .int .i64 ((i : Nat) : Int)), (4, a15), (5, .int .i64 e.check), (7, a6), (8, .int .i64 ((p.es.length : Nat) : Int)), (9, .int .i64 ((i : Nat) : Int)), (17, .bool (e.check != 0))] trivial ?_
   refine RP_nil <| n_then <| W_cond rfl (fun c17_22 => ?_) (fun c17_22 => ?_)
   ·
    refine W_seq <| W_region <| RP_sg 2 [.p (.int .i64 e.check), .p (.int .i64 e.check)] [(2, .int .i64 e.check)] trivial ?_
    refine RP_nil <| n_then <| W_ret <| r_then <| r_block <| r_then <| r_loop <| r_block <| r_then ?_
    have hok : entE p (prevE p.es i) e = e.check := by unfold entE;  (try rw [c17_22]); rfl
    have hnz : (e.check : Int) ≠ 0 := by simpa using c17_22
    have hz : entsE p none p.es = e.check := by rw [← hle, entsE_drop p p.es he, hok, show ((e.check : Int) != 0) = true from by simpa using hnz]; rfl
    refine ret_of (P := Tryd.prog) (fn := Tryd.f106) (m := [(2, .int .i64 e.check)]) (w := w19) (res1 rfl (rv_tmp rfl)) ?_
    exact ⟨by rw [hz, show ((e.check : Int) != 0) = true from by simpa using hnz]; rfl, st20.ext⟩
   ·
    refine W_skip <| n_then <| W_seq <| W_regionS ⟨(fun w' => Blk w' g14 61 [.string e.key, .int .i64 e.c, .int .i64 e.n, .string e.val, .bool e.dead].toArray ∧ Blk w' g4 34 [.int .i64 p.k, .string p.r.lo, .string p.r.hi, .bool p.r.op, .int .i64 p.t.k, .int .u64 p.t.a, .int .u64 p.t.b, a6].toArray ∧ InS w' p.eb (entCells p.es)), (fun _ => True)⟩ (.cons 1 0 (.cons 1 1 (.cons 1 2 (.cons 1 3 (.cons 2 4 (.cons 1 5 (.cons 1 6 (.cons 1 7 (.cons 1 8 (.cons 1 9 (.cons 1 10 (.cons 1 11 (.cons 1 12 (.cons 1 13 (.cons 1 14 (.cons 1 15 (.cons 1 16 (.cons 1 17 (.cons 1 18 (.cons 1 19 (.cons 1 20 (.cons 1 21 .nil)))))))))))))))))))))) 22 (by kernel_rfl) (by kernel_rfl) ?_
    have st23 := st20.drew
    let a24 : Value := .agg #[.string p.r.lo, .string p.r.hi, .bool p.r.op]
    refine RS_sg 4 [.p (.pointer (some ⟨g4, 1, none⟩)), .l 24 (.pointer (some ⟨g4, 1, none⟩)) a24, .p a15, .l 9 a15 (.string e.key)] [(1, a5), (3, .int .i64 ((i : Nat) : Int)), (4, a15), (7, a6), (8, .int .i64 ((p.es.length : Nat) : Int)), (9, .int .i64 ((i : Nat) : Int)), (20, a24), (22, .string e.key)] (⟨st23.get 0 rfl, st23.get 1 rfl, hin.ext0 st23.ext⟩) (fun _ hS => ⟨ldNb (hS.2.1) agg_24 rfl rfl, ld1b (hS.1) nagg_9 rfl, trivial⟩) ?_
    refine RS_e rfl rfl (ef_call (k := 58) (args := [a24, .string e.key]) (spanHolds_cr p.r e.key _) body_58 (by kernel_rfl)) ?_
    rintro _ w25 ⟨_, rfl, rfl, hx27⟩
    have st26 := st23.call0 hx27
    refine ⟨⟨st26.get 0 rfl, st26.get 1 rfl, hin.ext0 st26.ext⟩, ?_⟩
    refine RS_sg 2 [.p (.bool (!(p.r.holds e.key))), .p (.bool (!(p.r.holds e.key)))] [(1, a5), (3, .int .i64 ((i : Nat) : Int)), (4, a15), (7, a6), (8, .int .i64 ((p.es.length : Nat) : Int)), (9, .int .i64 ((i : Nat) : Int)), (25, .bool (!(p.r.holds e.key)))] (⟨st26.get 0 rfl, st26.get 1 rfl, hin.ext0 st26.ext⟩) (fun _ hS => trivial) ?_
    rcases Bool.eq_false_or_eq_true (!(p.r.holds e.key)) with c25_28 | c25_28
    ·
     refine RS_at (m' := [(1, a5), (3, .int .i64 ((i : Nat) : Int)), (4, a15), (7, a6), (8, .int .i64 ((p.es.length : Nat) : Int)), (9, .int .i64 ((i : Nat) : Int)), (25, .bool true)]) (by rw [c25_28]) ?_
     refine RS_sg 15 [.no, .no, .no, .no, .no, .no, .no, .no, .no, .no, .no, .no, .no, .no, .p (.bool true)] [(1, a5), (7, a6), (8, .int .i64 ((p.es.length : Nat) : Int)), (9, .int .i64 ((i : Nat) : Int)), (40, .bool true)] (⟨st26.get 0 rfl, st26.get 1 rfl, hin.ext0 st26.ext⟩) (fun _ hS => trivial) ?_
     refine RS_nil <| n_then <| W_true rfl ?_
     refine W_seq <| W_region <| RP_sg 1 [.p (.int .i64 116)] [(2, .int .i64 116)] trivial ?_
     refine RP_nil <| n_then <| W_ret <| r_block <| r_then <| r_loop <| r_block <| r_then ?_
     have hok : entE p (prevE p.es i) e = 116 := by unfold entE;  (try rw [c17_22]); (try rw [c25_28]); rfl
     have hnz : (116 : Int) ≠ 0 := (by decide : (116 : Int) ≠ 0)
     have hz : entsE p none p.es = 116 := by rw [← hle, entsE_drop p p.es he, hok, show ((116 : Int) != 0) = true from by simpa using hnz]; rfl
     refine ret_of (P := Tryd.prog) (fn := Tryd.f106) (m := [(2, .int .i64 116)]) (w := w25) (res1 rfl (rv_tmp rfl)) ?_
     exact ⟨by rw [hz, show ((116 : Int) != 0) = true from by simpa using hnz]; rfl, st26.ext⟩
    ·
     refine RS_at (m' := [(1, a5), (3, .int .i64 ((i : Nat) : Int)), (4, a15), (7, a6), (8, .int .i64 ((p.es.length : Nat) : Int)), (9, .int .i64 ((i : Nat) : Int)), (25, .bool false)]) (by rw [c25_28]) ?_
     refine RS_sg 3 [.p (.int .i64 ((i : Nat) : Int)), .p (.bool (decide (((i : Nat) : Int) > 0))), .p (.bool (decide (((i : Nat) : Int) > 0)))] [(1, a5), (3, .int .i64 ((i : Nat) : Int)), (4, a15), (7, a6), (8, .int .i64 ((p.es.length : Nat) : Int)), (9, .int .i64 ((i : Nat) : Int)), (25, .bool false), (28, .bool (decide (((i : Nat) : Int) > 0)))] (⟨st26.get 0 rfl, st26.get 1 rfl, hin.ext0 st26.ext⟩) (fun _ hS => trivial) ?_
     rcases Bool.eq_false_or_eq_true (decide (((i : Nat) : Int) > 0)) with c28_29 | c28_29
     ·
      have c28_29p := of_decide_eq_true c28_29
      refine RS_at (m' := [(1, a5), (3, .int .i64 ((i : Nat) : Int)), (4, a15), (7, a6), (8, .int .i64 ((p.es.length : Nat) : Int)), (9, .int .i64 ((i : Nat) : Int)), (25, .bool false), (28, .bool true)]) (by rw [c28_29]) ?_
      refine RS_sg 4 [.p (.pointer (some ⟨g4, 7, none⟩)), .l 22 (.pointer (some ⟨g4, 7, none⟩)) a6, .p (.int .i64 ((i : Nat) : Int)), .p (.int .i64 (IntKind.i64.wrap (((i : Nat) : Int) - 1)))] [(1, a5), (4, a15), (7, a6), (8, .int .i64 ((p.es.length : Nat) : Int)), (9, .int .i64 ((i : Nat) : Int)), (25, .bool false), (28, .bool true), (30, a6), (32, .int .i64 (IntKind.i64.wrap (((i : Nat) : Int) - 1)))] (⟨st26.get 0 rfl, st26.get 1 rfl, hin.ext0 st26.ext⟩) (fun _ hS => ⟨ld1b (hS.2.1) nagg_22 rfl, trivial⟩) ?_
      refine RS_at (m' := [(1, a5), (4, a15), (7, a6), (8, .int .i64 ((p.es.length : Nat) : Int)), (9, .int .i64 ((i : Nat) : Int)), (25, .bool false), (28, .bool true), (30, a6), (32, .int .i64 (((i - 1) : Nat) : Int))]) (by rw [show IntKind.i64.wrap (((i : Nat) : Int) - 1) = ((i - 1 : Nat) : Int) by rw [wrap_in (by omega) (by omega)]; omega]) ?_
      obtain ⟨e0, he0⟩ : ∃ e, p.es[i - 1]? = some e := ⟨p.es[i - 1], by simp⟩
      refine RS_gq rfl rfl rfl (⟨st26.get 0 rfl, st26.get 1 rfl, hin.ext0 st26.ext⟩) (v := .pointer (some ⟨(sp p.eb), so p.eb + (i - 1) * 5, none⟩)) (fun _ _ => ev_indexI idxEnt rfl rfl hbs (by omega)) ?_
      refine RS_sg 7 [.p (.pointer (some ⟨(sp p.eb), so p.eb + (i - 1) * 5, none⟩)), .l 9 (.pointer (some ⟨(sp p.eb), so p.eb + (i - 1) * 5, none⟩)) (.string e0.key), .p a15, .l 9 a15 (.string e.key), .p (.bool (!(Op.bytesLess (e0.key).toList (e.key).toList))), .p (.bool (!(Op.bytesLess (e0.key).toList (e.key).toList))), .p (.bool (!(Op.bytesLess (e0.key).toList (e.key).toList)))] [(1, a5), (7, a6), (8, .int .i64 ((p.es.length : Nat) : Int)), (9, .int .i64 ((i : Nat) : Int)), (40, .bool (!(Op.bytesLess (e0.key).toList (e.key).toList)))] (⟨st26.get 0 rfl, st26.get 1 rfl, hin.ext0 st26.ext⟩) (fun _ hS => ⟨(InS.load1 nagg_9 (hS.2.2) (entCells_0 he0 rfl)), ld1b (hS.1) nagg_9 rfl, trivial⟩) ?_
      refine RS_nil <| n_then <| W_cond rfl (fun c40_30 => ?_) (fun c40_30 => ?_)
      ·
       refine W_seq <| W_region <| RP_sg 1 [.p (.int .i64 116)] [(2, .int .i64 116)] trivial ?_
       refine RP_nil <| n_then <| W_ret <| r_block <| r_then <| r_loop <| r_block <| r_then ?_
       have hp : prevE p.es i = some e0 := by unfold prevE; rw [if_neg (by omega)]; exact he0
       have hok : entE p (prevE p.es i) e = 116 := by unfold entE; (try rw [hp]); (try dsimp only); (try rw [c17_22]); (try rw [c25_28]); (try rw [c40_30]); rfl
       have hnz : (116 : Int) ≠ 0 := (by decide : (116 : Int) ≠ 0)
       have hz : entsE p none p.es = 116 := by rw [← hle, entsE_drop p p.es he, hok, show ((116 : Int) != 0) = true from by simpa using hnz]; rfl
       refine ret_of (P := Tryd.prog) (fn := Tryd.f106) (m := [(2, .int .i64 116)]) (w := w25) (res1 rfl (rv_tmp rfl)) ?_
       exact ⟨by rw [hz, show ((116 : Int) != 0) = true from by simpa using hnz]; rfl, st26.ext⟩
      ·
       refine W_skip <| n_block <| n_then <| W_region <| RP_sg 2 [.p (.int .i64 (IntKind.i64.wrap (((i : Nat) : Int) + 1))), .p (.int .i64 (IntKind.i64.wrap (((i : Nat) : Int) + 1)))] [(1, a5), (7, a6), (8, .int .i64 ((p.es.length : Nat) : Int)), (9, .int .i64 (IntKind.i64.wrap (((i : Nat) : Int) + 1)))] trivial ?_
       refine RP_nil ?_
       have hp : prevE p.es i = some e0 := by unfold prevE; rw [if_neg (by omega)]; exact he0
       have hok : entE p (prevE p.es i) e = 0 := by unfold entE; (try rw [hp]); (try dsimp only); (try rw [c17_22]); (try rw [c25_28]); (try rw [c40_30]); rfl
       have hz : entsE p (prevE p.es (i + 1)) (p.es.drop (i + 1)) = entsE p none p.es := by rw [← hle, entsE_drop p p.es he, hok]; rfl
       exact ⟨_, by omega, (i + 1), rfl, by rw [inc_w (n := i) (by omega)], st26.sub [] (List.sublist_cons_self _ _), by omega, hz⟩
     ·
      have c28_29p := of_decide_eq_false c28_29
      refine RS_at (m' := [(1, a5), (3, .int .i64 ((i : Nat) : Int)), (4, a15), (7, a6), (8, .int .i64 ((p.es.length : Nat) : Int)), (9, .int .i64 ((i : Nat) : Int)), (25, .bool false), (28, .bool false)]) (by rw [c28_29]) ?_
      refine RS_sg 12 [.no, .no, .no, .no, .no, .no, .no, .no, .no, .no, .p (.bool false), .p (.bool false)] [(1, a5), (7, a6), (8, .int .i64 ((p.es.length : Nat) : Int)), (9, .int .i64 ((i : Nat) : Int)), (40, .bool false)] (⟨st26.get 0 rfl, st26.get 1 rfl, hin.ext0 st26.ext⟩) (fun _ hS => trivial) ?_
      refine RS_nil <| n_then <| W_false rfl ?_
      refine W_skip <| n_block <| n_then <| W_region <| RP_sg 2 [.p (.int .i64 (IntKind.i64.wrap (((i : Nat) : Int) + 1))), .p (.int .i64 (IntKind.i64.wrap (((i : Nat) : Int) + 1)))] [(1, a5), (7, a6), (8, .int .i64 ((p.es.length : Nat) : Int)), (9, .int .i64 (IntKind.i64.wrap (((i : Nat) : Int) + 1)))] trivial ?_
      refine RP_nil ?_
      have hp : prevE p.es i = none := by unfold prevE; rw [if_pos (by omega)]
      have hok : entE p (prevE p.es i) e = 0 := by unfold entE; (try rw [hp]); (try dsimp only); (try rw [c17_22]); (try rw [c25_28]); rfl
      have hz : entsE p (prevE p.es (i + 1)) (p.es.drop (i + 1)) = entsE p none p.es := by rw [← hle, entsE_drop p p.es he, hok]; rfl
      exact ⟨_, by omega, (i + 1), rfl, by rw [inc_w (n := i) (by omega)], st26.sub [] (List.sublist_cons_self _ _), by omega, hz⟩
  ·
   have c10_9p := of_decide_eq_false c10_9
   refine W_exit ?_
   refine e_then <| e_loop <| e_here ?_
   refine n_then <| W_seq <| W_seq <| W_region <| RP_sg 4 [.p a5, .l 3 a5 (.int .i64 p.k), .p (.bool (p.k == 3)), .p (.bool (p.k == 3))] [(1, a5), (45, .bool (p.k == 3))] ⟨ld1 st7 nagg_3 0 rfl rfl, trivial⟩ ?_
   rcases Bool.eq_false_or_eq_true (p.k == 3) with c45_31 | c45_31
   ·
    refine RP_at (m' := [(1, a5), (45, .bool true)]) (by rw [c45_31]) ?_
    refine RP_sg 5 [.p (.pointer (some ⟨g4, 7, none⟩)), .l 22 (.pointer (some ⟨g4, 7, none⟩)) a6, .p (.int .i64 ((p.es.length : Nat) : Int)), .p (.bool (((p.es.length : Nat) : Int) == 0)), .p (.bool (((p.es.length : Nat) : Int) == 0))] [(50, .bool (((p.es.length : Nat) : Int) == 0))] ⟨ld1 st7 nagg_22 0 rfl rfl, trivial⟩ ?_
    refine RP_nil <| n_then <| W_cond rfl (fun c50_32 => ?_) (fun c50_32 => ?_)
    ·
     refine W_seq <| W_region <| RP_sg 1 [.p (.int .i64 116)] [(2, .int .i64 116)] trivial ?_
     refine RP_nil <| n_then <| W_ret <| r_then ?_
     have hiL : i = p.es.length := by omega
     rw [hiL, List.drop_length] at hle
     have hz : entsE p none p.es = 0 := hle.symm
     refine ret_of (P := Tryd.prog) (fn := Tryd.f106) (m := [(2, .int .i64 116)]) (w := w8) (res1 rfl (rv_tmp rfl)) ?_
     exact ⟨by rw [hz]; (try rw [c10_9]); (try rw [c45_31]); (try rw [c50_32]); rfl, st7.ext⟩
    ·
     refine W_skip <| n_then <| W_seq <| W_region <| RP_sg 1 [.p (.int .i64 0)] [(2, .int .i64 0)] trivial ?_
     refine RP_nil <| n_then <| W_ret ?_
     have hiL : i = p.es.length := by omega
     rw [hiL, List.drop_length] at hle
     have hz : entsE p none p.es = 0 := hle.symm
     refine ret_of (P := Tryd.prog) (fn := Tryd.f106) (m := [(2, .int .i64 0)]) (w := w8) (res1 rfl (rv_tmp rfl)) ?_
     exact ⟨by rw [hz]; (try rw [c10_9]); (try rw [c45_31]); (try rw [c50_32]); rfl, st7.ext⟩
   ·
    refine RP_at (m' := [(1, a5), (45, .bool false)]) (by rw [c45_31]) ?_
    refine RP_sg 5 [.no, .no, .no, .no, .p (.bool false)] [(50, .bool false)] trivial ?_
    refine RP_nil <| n_then <| W_false rfl ?_
    refine W_skip <| n_then <| W_seq <| W_region <| RP_sg 1 [.p (.int .i64 0)] [(2, .int .i64 0)] trivial ?_
    refine RP_nil <| n_then <| W_ret ?_
    have hiL : i = p.es.length := by omega
    rw [hiL, List.drop_length] at hle
    have hz : entsE p none p.es = 0 := hle.symm
    refine ret_of (P := Tryd.prog) (fn := Tryd.f106) (m := [(2, .int .i64 0)]) (w := w8) (res1 rfl (rv_tmp rfl)) ?_
    exact ⟨by rw [hz]; (try rw [c10_9]); (try rw [c45_31]); rfl, st7.ext⟩
end Go.Proofs.YtcopemgkjbaaeaaDoor
namespace Go.Proofs.YtcopemgkjbaaeaaDoor
set_option linter.all false
open Go.RowKit
def roomE : Int → List Prt → Int
  | _, [] => 0
  | r, p :: l => cond (decide (((p.es.length : Nat) : Int) > r)) 113 (roomE (r - ((p.es.length : Nat) : Int)) l)
def Tal.may (t : Tal) : Bool := !(decide (t.k < 0) || (decide (t.k > 256) || ((t.k == 0) && !(t.a == 0 && t.b == 0))))
def partE (q : Option Prt) (p : Prt) : Int :=
  cond (p.fields != 0) p.fields (cond (p.r.check != 0) p.r.check (cond p.r.empty 115 (cond (match q with | some q => q.r.op || Op.bytesLess p.r.lo.toList q.r.hi.toList | none => false) 115
    (cond (p.k != 1) p.entries (cond p.t.may 0 117)))))
def prevP (l : List Prt) (i : Nat) : Option Prt := if i = 0 then none else l[i - 1]?
def partsE : Option Prt → List Prt → Int
  | _, [] => 0
  | q, p :: l => cond (partE q p != 0) (partE q p) (partsE (some p) l)
theorem partsE_drop (l : List Prt) {i : Nat} {p : Prt} (hp : l[i]? = some p) : partsE (prevP l i) (l.drop i) = cond (partE (prevP l i) p != 0) (partE (prevP l i) p) (partsE (prevP l (i + 1)) (l.drop (i + 1))) := by
  obtain ⟨h1, h2⟩ := List.getElem?_eq_some_iff.1 hp
  rw [List.drop_eq_getElem_cons h1, h2, partsE]
  congr 2
  simp [prevP, hp]
theorem roomE_drop (l : List Prt) {i : Nat} {p : Prt} {r : Int} (hp : l[i]? = some p) : roomE r (l.drop i) = cond (decide (((p.es.length : Nat) : Int) > r)) 113 (roomE (r - ((p.es.length : Nat) : Int)) (l.drop (i + 1))) := by
  obtain ⟨h1, h2⟩ := List.getElem?_eq_some_iff.1 hp
  rw [List.drop_eq_getElem_cons h1, h2, roomE]
def checkParts (l : List Prt) : Int := cond (decide (((l.length : Nat) : Int) > 768)) 113 (cond (roomE 256 l != 0) (roomE 256 l) (partsE none l))
def PartsIn (w : World) (l : List Prt) : Prop := ∀ p ∈ l, InS w p.eb (entCells p.es)
theorem PartsIn.ext0 {w w' : World} {l : List Prt} (h : PartsIn w l) (hx : Ext [] w w') : PartsIn w' l := fun p hp => (h p hp).ext0 hx
theorem sub_small {a b : Int} (h1 : -1000000000 ≤ a) (h2 : a ≤ 1000000000) (h3 : 0 ≤ b) (h4 : b ≤ 1000000) : IntKind.i64.wrap (a - b) = a - b := wrap_in (by omega) (by omega)
theorem room_ok : ∀ (l : List Prt) (r : Int), roomE r l = 0 → 0 ≤ r → ∀ p ∈ l, ((p.es.length : Nat) : Int) ≤ r
  | [], _, _, _, p, hp => by cases hp
  | q :: l, r, h, h0, p, hp => by
    rw [roomE] at h
    rcases Bool.eq_false_or_eq_true (decide (((q.es.length : Nat) : Int) > r)) with hc | hc
    · rw [hc] at h; cases h
    · rw [hc] at h
      have h1 := of_decide_eq_false hc
      rcases List.mem_cons.1 hp with rfl | hp
      · omega
      · have := room_ok l _ h (by omega) p hp; omega
theorem checkParts_cr {w : World} {b : Option Addr} {c : Nat} (L : List Prt) (hin : InS w b (prtCells L)) (hps : PartsIn w L) (hes : ∀ p ∈ L, p.es.length < 1000000) :
    CR Tryd.prog 47 [.slice b L.length c] w fun v w' => v = .int .i64 (checkParts L) ∧ Ext [] w w' := by
  have st := St.init w []
  unfold checkParts
  refine CR_enter Tryd.func47 rfl Tryd.ntmps47 rfl ?_
  refine W_seq <| W_region ?_
  let a1 : Value := .slice b L.length c
  refine RP_sg 1 [.p (.int .i64 0)] [(0, a1)] trivial ?_
  refine RP_nil <| n_then <| W_seq <| W_seq <| W_region <| RP_sg 3 [.p a1, .p (.int .i64 ((L.length : Nat) : Int)), .p (.bool (decide (((L.length : Nat) : Int) > 768)))] [(0, a1), (14, .bool (decide (((L.length : Nat) : Int) > 768)))] trivial ?_
  refine RP_nil <| n_then <| W_cond rfl (fun c14_2 => ?_) (fun c14_2 => ?_)
  ·
   have c14_2p := of_decide_eq_true c14_2
   refine W_seq <| W_region <| RP_sg 1 [.p (.int .i64 113)] [(2, .int .i64 113)] trivial ?_
   refine RP_nil <| n_then <| W_ret <| r_then ?_
   refine ret_of (P := Tryd.prog) (fn := Tryd.f47) (m := [(2, .int .i64 113)]) (w := w) (res1 rfl (rv_tmp rfl)) ?_
   exact ⟨by (try rw [c14_2]); rfl, st.ext⟩
  ·
   have c14_2p := of_decide_eq_false c14_2
   refine W_skip <| n_then <| W_seq <| W_region <| RP_sg 1 [.p (.int .i64 256)] [(0, a1), (3, .int .i64 256)] trivial ?_
   refine RP_nil <| n_then <| W_seq <| W_seq <| W_region <| RP_sg 3 [.p a1, .p (.int .i64 ((L.length : Nat) : Int)), .p (.int .i64 0)] [(0, a1), (3, .int .i64 256), (15, a1), (16, .int .i64 ((L.length : Nat) : Int)), (17, .int .i64 0)] trivial ?_
   refine RP_nil <| n_then <| W_block <| W_loop (fun k_ m_ w_ => ∃ (i : Nat) (rm : Int), L.length - i = k_ ∧ m_ = [(0, a1), (3, .int .i64 rm), (15, a1), (16, .int .i64 ((L.length : Nat) : Int)), (17, .int .i64 ((i : Nat) : Int))] ∧ St [] w w_ [] ∧ i ≤ L.length ∧ roomE rm (L.drop i) = roomE 256 L ∧ 0 ≤ rm ∧ rm ≤ 256) ⟨0, 256, rfl, rfl, st, Nat.zero_le _, rfl, by omega, by omega⟩ ?_
   rintro _ _ w4 ⟨i, rm, rfl, rfl, st3, hil, hle, hr0, hr1⟩
   refine W_seq <| W_region <| RP_sg 1 [.p (.bool (decide (((i : Nat) : Int) < ((L.length : Nat) : Int))))] [(0, a1), (3, .int .i64 rm), (15, a1), (16, .int .i64 ((L.length : Nat) : Int)), (17, .int .i64 ((i : Nat) : Int)), (18, .bool (decide (((i : Nat) : Int) < ((L.length : Nat) : Int))))] trivial ?_
   refine RP_nil <| n_then <| W_seq <| W_cond rfl (fun c18_5 => ?_) (fun c18_5 => ?_)
   ·
    have c18_5p := of_decide_eq_true c18_5
    refine W_skip <| n_then <| W_seq <| W_block <| W_seq <| W_region ?_
    have hlt : i < L.length := by omega
    obtain ⟨p, hp⟩ : ∃ p, L[i]? = some p := ⟨L[i], by simp [hlt]⟩
    have hbs := hin.some_ (by rw [prtCells_len]; omega)
    have hpe := hes p (List.mem_of_getElem? hp)
    refine RP_q rfl (v := .pointer (some ⟨(sp b), so b + i * 8, none⟩)) (ev_indexI idxPart rfl rfl hbs hlt) ?_
    let a6 : Value := .agg #[.int .i64 p.k, .string p.r.lo, .string p.r.hi, .bool p.r.op, .int .i64 p.t.k, .int .u64 p.t.a, .int .u64 p.t.b, .slice p.eb p.es.length p.ec]
    refine RP_sg 1 [.l 34 (.pointer (some ⟨(sp b), so b + i * 8, none⟩)) a6] [(0, a1), (3, .int .i64 rm), (15, a1), (16, .int .i64 ((L.length : Nat) : Int)), (17, .int .i64 ((i : Nat) : Int)), (20, a6)] ⟨InS.loadN agg_34 (hin.ext0 st3.ext) (prtCells_at hp) rfl (by decide), trivial⟩ ?_
    refine RP_e rfl (ef_alloc st3 zero_34 rfl) ?_
    rintro _ w7 ⟨g10, rfl, hg10, hg10', st8, hx9⟩
    replace st8 : St [] w w7 [(g10, 34, [.int .i64 0, .string (⟨#[]⟩ : ByteArray), .string (⟨#[]⟩ : ByteArray), .bool false, .int .i64 0, .int .u64 0, .int .u64 0, .slice none 0 0])] := st8
    refine RP_e rfl (ef_store st8 rfl rfl rfl size_34 0 rfl rfl rfl rfl (.inr hg10)) ?_
    rintro _ w11 ⟨rfl, st12, hx13⟩
    replace st12 : St [] w w11 [(g10, 34, [.int .i64 p.k, .string p.r.lo, .string p.r.hi, .bool p.r.op, .int .i64 p.t.k, .int .u64 p.t.a, .int .u64 p.t.b, .slice p.eb p.es.length p.ec])] := st12
    let a14 : Value := .pointer (some ⟨g10, 0, none⟩)
    refine RP_pk [(0, a1), (3, .int .i64 rm), (5, a14), (15, a1), (16, .int .i64 ((L.length : Nat) : Int)), (17, .int .i64 ((i : Nat) : Int))] ?_
    refine RP_nil <| n_then <| W_seq <| W_seq <| W_region <| RP_sg 5 [.p (.pointer (some ⟨g10, 7, none⟩)), .l 22 (.pointer (some ⟨g10, 7, none⟩)) (.slice p.eb p.es.length p.ec), .p (.int .i64 ((p.es.length : Nat) : Int)), .p (.int .i64 rm), .p (.bool (decide (((p.es.length : Nat) : Int) > rm)))] [(0, a1), (3, .int .i64 rm), (5, a14), (15, a1), (16, .int .i64 ((L.length : Nat) : Int)), (17, .int .i64 ((i : Nat) : Int)), (25, .bool (decide (((p.es.length : Nat) : Int) > rm)))] ⟨ld1 st12 nagg_22 0 rfl rfl, trivial⟩ ?_
    refine RP_nil <| n_then <| W_cond rfl (fun c25_15 => ?_) (fun c25_15 => ?_)
    ·
     have c25_15p := of_decide_eq_true c25_15
     refine W_seq <| W_region <| RP_sg 1 [.p (.int .i64 113)] [(2, .int .i64 113)] trivial ?_
     refine RP_nil <| n_then <| W_ret <| r_then <| r_block <| r_then <| r_loop <| r_block <| r_then ?_
     have hz := hle
     rw [roomE_drop L hp, c25_15] at hz
     have hz2 : roomE 256 L = 113 := hz.symm
     refine ret_of (P := Tryd.prog) (fn := Tryd.f47) (m := [(2, .int .i64 113)]) (w := w11) (res1 rfl (rv_tmp rfl)) ?_
     exact ⟨by (try rw [c14_2]); (try rw [c18_5]); (try rw [c25_15]); rw [hz2]; rfl, st12.ext⟩
    ·
     have c25_15p := of_decide_eq_false c25_15
     refine W_skip <| n_then <| W_region <| RP_sg 5 [.p (.int .i64 rm), .p (.pointer (some ⟨g10, 7, none⟩)), .l 22 (.pointer (some ⟨g10, 7, none⟩)) (.slice p.eb p.es.length p.ec), .p (.int .i64 ((p.es.length : Nat) : Int)), .p (.int .i64 (IntKind.i64.wrap (rm - ((p.es.length : Nat) : Int))))] [(0, a1), (15, a1), (16, .int .i64 ((L.length : Nat) : Int)), (17, .int .i64 ((i : Nat) : Int)), (30, .int .i64 (IntKind.i64.wrap (rm - ((p.es.length : Nat) : Int))))] ⟨ld1 st12 nagg_22 0 rfl rfl, trivial⟩ ?_
     refine RP_at (m' := [(0, a1), (15, a1), (16, .int .i64 ((L.length : Nat) : Int)), (17, .int .i64 ((i : Nat) : Int)), (30, .int .i64 (rm - ((p.es.length : Nat) : Int)))]) (by rw [sub_small (a := rm) (b := ((p.es.length : Nat) : Int)) (by omega) (by omega) (by omega) (by omega)]) ?_
     refine RP_sg 1 [.p (.int .i64 (rm - ((p.es.length : Nat) : Int)))] [(0, a1), (3, .int .i64 (rm - ((p.es.length : Nat) : Int))), (15, a1), (16, .int .i64 ((L.length : Nat) : Int)), (17, .int .i64 ((i : Nat) : Int))] trivial ?_
     refine RP_nil <| n_block <| n_then <| W_region <| RP_sg 2 [.p (.int .i64 (IntKind.i64.wrap (((i : Nat) : Int) + 1))), .p (.int .i64 (IntKind.i64.wrap (((i : Nat) : Int) + 1)))] [(0, a1), (3, .int .i64 (rm - ((p.es.length : Nat) : Int))), (15, a1), (16, .int .i64 ((L.length : Nat) : Int)), (17, .int .i64 (IntKind.i64.wrap (((i : Nat) : Int) + 1)))] trivial ?_
     refine RP_nil ?_
     have hz := hle
     rw [roomE_drop L hp, c25_15] at hz
     exact ⟨_, by omega, (i + 1), _, rfl, by rw [inc_w (n := i) (by omega)], st12.sub [] (List.sublist_cons_self _ _), by omega, hz, by omega, by omega⟩
   ·
    have c18_5p := of_decide_eq_false c18_5
    refine W_exit ?_
    refine e_then <| e_loop <| e_here ?_
    refine n_then <| W_seq <| W_seq <| W_region ?_
    have hiL : i = L.length := by omega
    have hrz : roomE 256 L = 0 := by rw [← hle, hiL, List.drop_length]; rfl
    clear hiL
    refine RP_sg 3 [.p a1, .p (.int .i64 ((L.length : Nat) : Int)), .p (.int .i64 0)] [(0, a1), (32, a1), (33, .int .i64 ((L.length : Nat) : Int)), (34, .int .i64 0)] trivial ?_
    refine RP_nil <| n_then <| W_block <| W_loop (fun k_ m_ w_ => ∃ (i : Nat), L.length - i = k_ ∧ m_ = [(0, a1), (32, a1), (33, .int .i64 ((L.length : Nat) : Int)), (34, .int .i64 ((i : Nat) : Int))] ∧ St [] w w_ [] ∧ i ≤ L.length ∧ partsE (prevP L i) (L.drop i) = partsE none L ∧ roomE 256 L = 0) ⟨0, rfl, rfl, st3, Nat.zero_le _, rfl, hrz⟩ ?_
    rintro _ _ w17 ⟨i, rfl, rfl, st16, hil, hle, hrz⟩
    refine W_seq <| W_region <| RP_sg 1 [.p (.bool (decide (((i : Nat) : Int) < ((L.length : Nat) : Int))))] [(0, a1), (32, a1), (33, .int .i64 ((L.length : Nat) : Int)), (34, .int .i64 ((i : Nat) : Int)), (35, .bool (decide (((i : Nat) : Int) < ((L.length : Nat) : Int))))] trivial ?_
    refine RP_nil <| n_then <| W_seq <| W_cond rfl (fun c35_18 => ?_) (fun c35_18 => ?_)
    ·
     have c35_18p := of_decide_eq_true c35_18
     refine W_skip <| n_then <| W_seq <| W_block <| W_seq <| W_region <| RP_sg 1 [.p (.int .i64 ((i : Nat) : Int))] [(0, a1), (32, a1), (33, .int .i64 ((L.length : Nat) : Int)), (34, .int .i64 ((i : Nat) : Int)), (36, .int .i64 ((i : Nat) : Int))] trivial ?_
     have hlt : i < L.length := by omega
     obtain ⟨p, hp⟩ : ∃ p, L[i]? = some p := ⟨L[i], by simp [hlt]⟩
     have hbs := hin.some_ (by rw [prtCells_len]; omega)
     have hpe := hes p (List.mem_of_getElem? hp)
     refine RP_q rfl (v := .pointer (some ⟨(sp b), so b + i * 8, none⟩)) (ev_indexI idxPart rfl rfl hbs hlt) ?_
     let a19 : Value := .agg #[.int .i64 p.k, .string p.r.lo, .string p.r.hi, .bool p.r.op, .int .i64 p.t.k, .int .u64 p.t.a, .int .u64 p.t.b, .slice p.eb p.es.length p.ec]
     refine RP_sg 1 [.l 34 (.pointer (some ⟨(sp b), so b + i * 8, none⟩)) a19] [(0, a1), (32, a1), (33, .int .i64 ((L.length : Nat) : Int)), (34, .int .i64 ((i : Nat) : Int)), (36, .int .i64 ((i : Nat) : Int)), (38, a19)] ⟨InS.loadN agg_34 (hin.ext0 st16.ext) (prtCells_at hp) rfl (by decide), trivial⟩ ?_
     refine RP_e rfl (ef_alloc st16 zero_34 rfl) ?_
     rintro _ w20 ⟨g23, rfl, hg23, hg23', st21, hx22⟩
     replace st21 : St [] w w20 [(g23, 34, [.int .i64 0, .string (⟨#[]⟩ : ByteArray), .string (⟨#[]⟩ : ByteArray), .bool false, .int .i64 0, .int .u64 0, .int .u64 0, .slice none 0 0])] := st21
     let a24 : Value := .pointer (some ⟨g23, 0, none⟩)
     refine RP_sg 1 [.p (.int .i64 ((i : Nat) : Int))] [(0, a1), (6, .int .i64 ((i : Nat) : Int)), (7, a24), (32, a1), (33, .int .i64 ((L.length : Nat) : Int)), (34, .int .i64 ((i : Nat) : Int)), (38, a19)] trivial ?_
     refine RP_e rfl (ef_store st21 rfl rfl rfl size_34 0 rfl rfl rfl rfl (.inr hg23)) ?_
     rintro _ w25 ⟨rfl, st26, hx27⟩
     replace st26 : St [] w w25 [(g23, 34, [.int .i64 p.k, .string p.r.lo, .string p.r.hi, .bool p.r.op, .int .i64 p.t.k, .int .u64 p.t.a, .int .u64 p.t.b, .slice p.eb p.es.length p.ec])] := st26
     refine RP_pk [(0, a1), (6, .int .i64 ((i : Nat) : Int)), (7, a24), (32, a1), (33, .int .i64 ((L.length : Nat) : Int)), (34, .int .i64 ((i : Nat) : Int))] ?_
     refine RP_nil <| n_then <| W_seq <| W_seq <| W_region <| RP_sg 1 [.l 34 a24 a19] [(0, a1), (6, .int .i64 ((i : Nat) : Int)), (7, a24), (32, a1), (33, .int .i64 ((L.length : Nat) : Int)), (34, .int .i64 ((i : Nat) : Int)), (39, a19)] ⟨ldN st26 agg_34 0 rfl rfl rfl, trivial⟩ ?_
     refine RP_e rfl (ef_call (k := 105) (args := [a19]) (checkFields_cr p _) body_105 (by kernel_rfl)) ?_
     rintro _ w28 ⟨_, rfl, rfl, hx30⟩
     have st29 := st26.call0 hx30
     refine RP_sg 1 [.p (.int .i64 p.fields)] [(0, a1), (6, .int .i64 ((i : Nat) : Int)), (7, a24), (8, .int .i64 p.fields), (32, a1), (33, .int .i64 ((L.length : Nat) : Int)), (34, .int .i64 ((i : Nat) : Int))] trivial ?_
     refine RP_nil <| n_then <| W_seq <| W_region <| RP_sg 2 [.p (.int .i64 p.fields), .p (.bool (p.fields != 0))] [(0, a1), (6, .int .i64 ((i : Nat) : Int)), (7, a24), (8, .int .i64 p.fields), (32, a1), (33, .int .i64 ((L.length : Nat) : Int)), (34, .int .i64 ((i : Nat) : Int)), (42, .bool (p.fields != 0))] trivial ?_
     refine RP_nil <| n_then <| W_cond rfl (fun c42_31 => ?_) (fun c42_31 => ?_)
     ·
      refine W_seq <| W_region <| RP_sg 2 [.p (.int .i64 p.fields), .p (.int .i64 p.fields)] [(2, .int .i64 p.fields)] trivial ?_
      refine RP_nil <| n_then <| W_ret <| r_then <| r_block <| r_then <| r_loop <| r_block <| r_then ?_
      have hok : partE (prevP L i) p = p.fields := by unfold partE Tal.may;  (try rw [c42_31]); rfl
      have hnz : (p.fields : Int) ≠ 0 := by simpa using c42_31
      have hz : partsE none L = p.fields := by rw [← hle, partsE_drop L hp, hok, show ((p.fields : Int) != 0) = true from by simpa using hnz]; rfl
      refine ret_of (P := Tryd.prog) (fn := Tryd.f47) (m := [(2, .int .i64 p.fields)]) (w := w28) (res1 rfl (rv_tmp rfl)) ?_
      exact ⟨by rw [c14_2, hrz, hz]; rfl, st29.ext⟩
     ·
      refine W_skip <| n_then <| W_seq <| W_seq <| W_region ?_
      let a32 : Value := .agg #[.string p.r.lo, .string p.r.hi, .bool p.r.op]
      refine RP_sg 2 [.p (.pointer (some ⟨g23, 1, none⟩)), .l 24 (.pointer (some ⟨g23, 1, none⟩)) a32] [(0, a1), (6, .int .i64 ((i : Nat) : Int)), (7, a24), (32, a1), (33, .int .i64 ((L.length : Nat) : Int)), (34, .int .i64 ((i : Nat) : Int)), (45, a32)] ⟨ldN st29 agg_24 0 rfl rfl rfl, trivial⟩ ?_
      refine RP_e rfl (ef_call (k := 29) (args := [a32]) (spanCheck_cr p.r _) body_29 (by kernel_rfl)) ?_
      rintro _ w33 ⟨_, rfl, rfl, hx35⟩
      have st34 := st29.call0 hx35
      refine RP_sg 1 [.p (.int .i64 p.r.check)] [(0, a1), (6, .int .i64 ((i : Nat) : Int)), (7, a24), (9, .int .i64 p.r.check), (32, a1), (33, .int .i64 ((L.length : Nat) : Int)), (34, .int .i64 ((i : Nat) : Int))] trivial ?_
      refine RP_nil <| n_then <| W_seq <| W_region <| RP_sg 2 [.p (.int .i64 p.r.check), .p (.bool (p.r.check != 0))] [(0, a1), (6, .int .i64 ((i : Nat) : Int)), (7, a24), (9, .int .i64 p.r.check), (32, a1), (33, .int .i64 ((L.length : Nat) : Int)), (34, .int .i64 ((i : Nat) : Int)), (48, .bool (p.r.check != 0))] trivial ?_
      refine RP_nil <| n_then <| W_cond rfl (fun c48_36 => ?_) (fun c48_36 => ?_)
      ·
       refine W_seq <| W_region <| RP_sg 2 [.p (.int .i64 p.r.check), .p (.int .i64 p.r.check)] [(2, .int .i64 p.r.check)] trivial ?_
       refine RP_nil <| n_then <| W_ret <| r_then <| r_block <| r_then <| r_loop <| r_block <| r_then ?_
       have hok : partE (prevP L i) p = p.r.check := by unfold partE Tal.may;  (try rw [c42_31]); (try rw [c48_36]); rfl
       have hnz : (p.r.check : Int) ≠ 0 := by simpa using c48_36
       have hz : partsE none L = p.r.check := by rw [← hle, partsE_drop L hp, hok, show ((p.r.check : Int) != 0) = true from by simpa using hnz]; rfl
       refine ret_of (P := Tryd.prog) (fn := Tryd.f47) (m := [(2, .int .i64 p.r.check)]) (w := w33) (res1 rfl (rv_tmp rfl)) ?_
       exact ⟨by rw [c14_2, hrz, hz]; rfl, st34.ext⟩
      ·
       refine W_skip <| n_then <| W_seq <| W_seq <| W_regionS ⟨(fun w' => Blk w' g23 34 [.int .i64 p.k, .string p.r.lo, .string p.r.hi, .bool p.r.op, .int .i64 p.t.k, .int .u64 p.t.a, .int .u64 p.t.b, .slice p.eb p.es.length p.ec].toArray ∧ InS w' b (prtCells L)), (fun _ => True)⟩ (.cons 1 0 (.cons 1 1 (.cons 2 2 (.cons 1 3 (.cons 1 4 (.cons 1 5 (.cons 1 6 (.cons 1 7 (.cons 1 8 (.cons 1 9 (.cons 1 10 (.cons 1 11 (.cons 1 12 (.cons 1 13 (.cons 1 14 (.cons 1 15 (.cons 1 16 (.cons 1 17 (.cons 1 18 (.cons 1 19 (.cons 1 20 (.cons 1 21 (.cons 1 22 (.cons 1 23 (.cons 1 24 (.cons 1 25 (.cons 1 26 (.cons 1 27 (.cons 1 28 .nil))))))))))))))))))))))))))))) 29 (by kernel_rfl) (by kernel_rfl) ?_
       have st37 := st34.drew
       refine RS_sg 2 [.p (.pointer (some ⟨g23, 1, none⟩)), .l 24 (.pointer (some ⟨g23, 1, none⟩)) a32] [(0, a1), (6, .int .i64 ((i : Nat) : Int)), (7, a24), (32, a1), (33, .int .i64 ((L.length : Nat) : Int)), (34, .int .i64 ((i : Nat) : Int)), (51, a32)] (⟨st37.get 0 rfl, hin.ext0 st37.ext⟩) (fun _ hS => ⟨ldNb (hS.1) agg_24 rfl rfl, trivial⟩) ?_
       refine RS_e rfl rfl (ef_call (k := 45) (args := [a32]) (spanEmpty_cr p.r _) body_45 (by kernel_rfl)) ?_
       rintro _ w38 ⟨_, rfl, rfl, hx40⟩
       have st39 := st37.call0 hx40
       refine ⟨⟨st39.get 0 rfl, hin.ext0 st39.ext⟩, ?_⟩
       refine RS_sg 1 [.p (.bool p.r.empty)] [(0, a1), (6, .int .i64 ((i : Nat) : Int)), (7, a24), (32, a1), (33, .int .i64 ((L.length : Nat) : Int)), (34, .int .i64 ((i : Nat) : Int)), (53, .bool p.r.empty)] (⟨st39.get 0 rfl, hin.ext0 st39.ext⟩) (fun _ hS => trivial) ?_
       rcases Bool.eq_false_or_eq_true (p.r.empty) with c53_41 | c53_41
       ·
        refine RS_at (m' := [(0, a1), (6, .int .i64 ((i : Nat) : Int)), (7, a24), (32, a1), (33, .int .i64 ((L.length : Nat) : Int)), (34, .int .i64 ((i : Nat) : Int)), (53, .bool true)]) (by rw [c53_41]) ?_
        refine RS_sg 25 [.no, .no, .no, .no, .no, .no, .no, .no, .no, .no, .no, .no, .no, .no, .no, .no, .no, .no, .no, .no, .no, .no, .no, .no, .p (.bool true)] [(0, a1), (7, a24), (32, a1), (33, .int .i64 ((L.length : Nat) : Int)), (34, .int .i64 ((i : Nat) : Int)), (78, .bool true)] (⟨st39.get 0 rfl, hin.ext0 st39.ext⟩) (fun _ hS => trivial) ?_
        refine RS_nil <| n_then <| W_true rfl ?_
        refine W_seq <| W_region <| RP_sg 1 [.p (.int .i64 115)] [(2, .int .i64 115)] trivial ?_
        refine RP_nil <| n_then <| W_ret <| r_then <| r_block <| r_then <| r_loop <| r_block <| r_then ?_
        have hok : partE (prevP L i) p = 115 := by unfold partE Tal.may;  (try rw [c42_31]); (try rw [c48_36]); (try rw [c53_41]); rfl
        have hnz : (115 : Int) ≠ 0 := (by decide : (115 : Int) ≠ 0)
        have hz : partsE none L = 115 := by rw [← hle, partsE_drop L hp, hok, show ((115 : Int) != 0) = true from by simpa using hnz]; rfl
        refine ret_of (P := Tryd.prog) (fn := Tryd.f47) (m := [(2, .int .i64 115)]) (w := w38) (res1 rfl (rv_tmp rfl)) ?_
        exact ⟨by rw [c14_2, hrz, hz]; rfl, st39.ext⟩
       ·
        refine RS_at (m' := [(0, a1), (6, .int .i64 ((i : Nat) : Int)), (7, a24), (32, a1), (33, .int .i64 ((L.length : Nat) : Int)), (34, .int .i64 ((i : Nat) : Int)), (53, .bool false)]) (by rw [c53_41]) ?_
        refine RS_sg 3 [.p (.int .i64 ((i : Nat) : Int)), .p (.bool (decide (((i : Nat) : Int) > 0))), .p (.bool (decide (((i : Nat) : Int) > 0)))] [(0, a1), (6, .int .i64 ((i : Nat) : Int)), (7, a24), (32, a1), (33, .int .i64 ((L.length : Nat) : Int)), (34, .int .i64 ((i : Nat) : Int)), (53, .bool false), (56, .bool (decide (((i : Nat) : Int) > 0)))] (⟨st39.get 0 rfl, hin.ext0 st39.ext⟩) (fun _ hS => trivial) ?_
        rcases Bool.eq_false_or_eq_true (decide (((i : Nat) : Int) > 0)) with c56_42 | c56_42
        ·
         have c56_42p := of_decide_eq_true c56_42
         refine RS_at (m' := [(0, a1), (6, .int .i64 ((i : Nat) : Int)), (7, a24), (32, a1), (33, .int .i64 ((L.length : Nat) : Int)), (34, .int .i64 ((i : Nat) : Int)), (53, .bool false), (56, .bool true)]) (by rw [c56_42]) ?_
         refine RS_sg 3 [.p a1, .p (.int .i64 ((i : Nat) : Int)), .p (.int .i64 (IntKind.i64.wrap (((i : Nat) : Int) - 1)))] [(0, a1), (6, .int .i64 ((i : Nat) : Int)), (7, a24), (32, a1), (33, .int .i64 ((L.length : Nat) : Int)), (34, .int .i64 ((i : Nat) : Int)), (53, .bool false), (56, .bool true), (57, a1), (59, .int .i64 (IntKind.i64.wrap (((i : Nat) : Int) - 1)))] (⟨st39.get 0 rfl, hin.ext0 st39.ext⟩) (fun _ hS => trivial) ?_
         refine RS_at (m' := [(0, a1), (6, .int .i64 ((i : Nat) : Int)), (7, a24), (32, a1), (33, .int .i64 ((L.length : Nat) : Int)), (34, .int .i64 ((i : Nat) : Int)), (53, .bool false), (56, .bool true), (57, a1), (59, .int .i64 (((i - 1) : Nat) : Int))]) (by rw [show IntKind.i64.wrap (((i : Nat) : Int) - 1) = ((i - 1 : Nat) : Int) by rw [wrap_in (by omega) (by omega)]; omega]) ?_
         obtain ⟨q, hq⟩ : ∃ q, L[i - 1]? = some q := ⟨L[i - 1], by simp⟩
         refine RS_gq rfl rfl rfl (⟨st39.get 0 rfl, hin.ext0 st39.ext⟩) (v := .pointer (some ⟨(sp b), so b + (i - 1) * 8, none⟩)) (fun _ _ => ev_indexI idxPart rfl rfl hbs (by omega)) ?_
         refine RS_sg 4 [.p (.pointer (some ⟨(sp b), so b + (i - 1) * 8 + 1, none⟩)), .p (.pointer (some ⟨(sp b), so b + (i - 1) * 8 + 3, none⟩)), .l 4 (.pointer (some ⟨(sp b), so b + (i - 1) * 8 + 3, none⟩)) (.bool q.r.op), .p (.bool q.r.op)] [(0, a1), (6, .int .i64 ((i : Nat) : Int)), (7, a24), (32, a1), (33, .int .i64 ((L.length : Nat) : Int)), (34, .int .i64 ((i : Nat) : Int)), (53, .bool false), (56, .bool true), (64, .bool q.r.op)] (⟨st39.get 0 rfl, hin.ext0 st39.ext⟩) (fun _ hS => ⟨(InS.load1f nagg_4 (hS.2) (prtCells_f (k := 3) hq (by decide) rfl)), trivial⟩) ?_
         rcases Bool.eq_false_or_eq_true (q.r.op) with c64_43 | c64_43
         ·
          refine RS_at (m' := [(0, a1), (6, .int .i64 ((i : Nat) : Int)), (7, a24), (32, a1), (33, .int .i64 ((L.length : Nat) : Int)), (34, .int .i64 ((i : Nat) : Int)), (53, .bool false), (56, .bool true), (64, .bool true)]) (by rw [c64_43]) ?_
          refine RS_sg 14 [.no, .no, .no, .no, .no, .no, .no, .no, .no, .no, .no, .p (.bool true), .p (.bool true), .p (.bool true)] [(0, a1), (7, a24), (32, a1), (33, .int .i64 ((L.length : Nat) : Int)), (34, .int .i64 ((i : Nat) : Int)), (78, .bool true)] (⟨st39.get 0 rfl, hin.ext0 st39.ext⟩) (fun _ hS => trivial) ?_
          refine RS_nil <| n_then <| W_true rfl ?_
          refine W_seq <| W_region <| RP_sg 1 [.p (.int .i64 115)] [(2, .int .i64 115)] trivial ?_
          refine RP_nil <| n_then <| W_ret <| r_then <| r_block <| r_then <| r_loop <| r_block <| r_then ?_
          have hpv : prevP L i = some q := by unfold prevP; rw [if_neg (by omega)]; exact hq
          have hok : partE (prevP L i) p = 115 := by unfold partE Tal.may; (try rw [hpv]); (try dsimp only); (try rw [c42_31]); (try rw [c48_36]); (try rw [c53_41]); (try rw [c64_43]); rfl
          have hnz : (115 : Int) ≠ 0 := (by decide : (115 : Int) ≠ 0)
          have hz : partsE none L = 115 := by rw [← hle, partsE_drop L hp, hok, show ((115 : Int) != 0) = true from by simpa using hnz]; rfl
          refine ret_of (P := Tryd.prog) (fn := Tryd.f47) (m := [(2, .int .i64 115)]) (w := w38) (res1 rfl (rv_tmp rfl)) ?_
          exact ⟨by rw [c14_2, hrz, hz]; rfl, st39.ext⟩
         ·
          refine RS_at (m' := [(0, a1), (6, .int .i64 ((i : Nat) : Int)), (7, a24), (32, a1), (33, .int .i64 ((L.length : Nat) : Int)), (34, .int .i64 ((i : Nat) : Int)), (53, .bool false), (56, .bool true), (64, .bool false)]) (by rw [c64_43]) ?_
          refine RS_sg 6 [.p (.pointer (some ⟨g23, 1, none⟩)), .p (.pointer (some ⟨g23, 1, none⟩)), .l 9 (.pointer (some ⟨g23, 1, none⟩)) (.string p.r.lo), .p a1, .p (.int .i64 ((i : Nat) : Int)), .p (.int .i64 (IntKind.i64.wrap (((i : Nat) : Int) - 1)))] [(0, a1), (7, a24), (32, a1), (33, .int .i64 ((L.length : Nat) : Int)), (34, .int .i64 ((i : Nat) : Int)), (53, .bool false), (56, .bool true), (64, .bool false), (67, .string p.r.lo), (68, a1), (70, .int .i64 (IntKind.i64.wrap (((i : Nat) : Int) - 1)))] (⟨st39.get 0 rfl, hin.ext0 st39.ext⟩) (fun _ hS => ⟨ld1b (hS.1) nagg_9 rfl, trivial⟩) ?_
          refine RS_at (m' := [(0, a1), (7, a24), (32, a1), (33, .int .i64 ((L.length : Nat) : Int)), (34, .int .i64 ((i : Nat) : Int)), (53, .bool false), (56, .bool true), (64, .bool false), (67, .string p.r.lo), (68, a1), (70, .int .i64 (((i - 1) : Nat) : Int))]) (by rw [show IntKind.i64.wrap (((i : Nat) : Int) - 1) = ((i - 1 : Nat) : Int) by rw [wrap_in (by omega) (by omega)]; omega]) ?_
          refine RS_gq rfl rfl rfl (⟨st39.get 0 rfl, hin.ext0 st39.ext⟩) (v := .pointer (some ⟨(sp b), so b + (i - 1) * 8, none⟩)) (fun _ _ => ev_indexI idxPart rfl rfl hbs (by omega)) ?_
          refine RS_sg 7 [.p (.pointer (some ⟨(sp b), so b + (i - 1) * 8 + 1, none⟩)), .p (.pointer (some ⟨(sp b), so b + (i - 1) * 8 + 2, none⟩)), .l 9 (.pointer (some ⟨(sp b), so b + (i - 1) * 8 + 2, none⟩)) (.string q.r.hi), .p (.bool (Op.bytesLess (p.r.lo).toList (q.r.hi).toList)), .p (.bool (Op.bytesLess (p.r.lo).toList (q.r.hi).toList)), .p (.bool (Op.bytesLess (p.r.lo).toList (q.r.hi).toList)), .p (.bool (Op.bytesLess (p.r.lo).toList (q.r.hi).toList))] [(0, a1), (7, a24), (32, a1), (33, .int .i64 ((L.length : Nat) : Int)), (34, .int .i64 ((i : Nat) : Int)), (78, .bool (Op.bytesLess (p.r.lo).toList (q.r.hi).toList))] (⟨st39.get 0 rfl, hin.ext0 st39.ext⟩) (fun _ hS => ⟨(InS.load1f nagg_9 (hS.2) (prtCells_f (k := 2) hq (by decide) rfl)), trivial⟩) ?_
          refine RS_nil <| n_then <| W_cond rfl (fun c78_44 => ?_) (fun c78_44 => ?_)
          ·
           refine W_seq <| W_region <| RP_sg 1 [.p (.int .i64 115)] [(2, .int .i64 115)] trivial ?_
           refine RP_nil <| n_then <| W_ret <| r_then <| r_block <| r_then <| r_loop <| r_block <| r_then ?_
           have hpv : prevP L i = some q := by unfold prevP; rw [if_neg (by omega)]; exact hq
           have hok : partE (prevP L i) p = 115 := by unfold partE Tal.may; (try rw [hpv]); (try dsimp only); (try rw [c42_31]); (try rw [c48_36]); (try rw [c53_41]); (try rw [c64_43]); (try rw [c78_44]); rfl
           have hnz : (115 : Int) ≠ 0 := (by decide : (115 : Int) ≠ 0)
           have hz : partsE none L = 115 := by rw [← hle, partsE_drop L hp, hok, show ((115 : Int) != 0) = true from by simpa using hnz]; rfl
           refine ret_of (P := Tryd.prog) (fn := Tryd.f47) (m := [(2, .int .i64 115)]) (w := w38) (res1 rfl (rv_tmp rfl)) ?_
           exact ⟨by rw [c14_2, hrz, hz]; rfl, st39.ext⟩
          ·
           refine W_skip <| n_then <| W_seq <| W_region <| RP_sg 3 [.p a24, .l 3 a24 (.int .i64 p.k), .p (.bool (p.k != 1))] [(0, a1), (7, a24), (32, a1), (33, .int .i64 ((L.length : Nat) : Int)), (34, .int .i64 ((i : Nat) : Int)), (81, .bool (p.k != 1))] ⟨ld1 st39 nagg_3 0 rfl rfl, trivial⟩ ?_
           refine RP_nil <| n_then <| W_cond rfl (fun c81_45 => ?_) (fun c81_45 => ?_)
           ·
            refine W_seq <| W_region <| RP_sg 1 [.l 34 a24 a19] [(0, a1), (32, a1), (33, .int .i64 ((L.length : Nat) : Int)), (34, .int .i64 ((i : Nat) : Int)), (82, a19)] ⟨ldN st39 agg_34 0 rfl rfl rfl, trivial⟩ ?_
            refine RP_e rfl (ef_call (k := 106) (args := [a19]) (checkEntries_cr p ((hps p (List.mem_of_getElem? hp)).ext0 st39.ext) hpe) body_106 (by kernel_rfl)) ?_
            rintro _ w46 ⟨_, rfl, rfl, hx48⟩
            have st47 := st39.call0 hx48
            refine RP_sg 1 [.p (.int .i64 p.entries)] [(0, a1), (10, .int .i64 p.entries), (32, a1), (33, .int .i64 ((L.length : Nat) : Int)), (34, .int .i64 ((i : Nat) : Int))] trivial ?_
            refine RP_nil <| n_then <| W_seq <| W_region <| RP_sg 2 [.p (.int .i64 p.entries), .p (.bool (p.entries != 0))] [(0, a1), (10, .int .i64 p.entries), (32, a1), (33, .int .i64 ((L.length : Nat) : Int)), (34, .int .i64 ((i : Nat) : Int)), (85, .bool (p.entries != 0))] trivial ?_
            refine RP_nil <| n_then <| W_cond rfl (fun c85_49 => ?_) (fun c85_49 => ?_)
            ·
             refine W_seq <| W_region <| RP_sg 2 [.p (.int .i64 p.entries), .p (.int .i64 p.entries)] [(2, .int .i64 p.entries)] trivial ?_
             refine RP_nil <| n_then <| W_ret <| r_block <| r_then <| r_loop <| r_block <| r_then ?_
             have hpv : prevP L i = some q := by unfold prevP; rw [if_neg (by omega)]; exact hq
             have hok : partE (prevP L i) p = p.entries := by unfold partE Tal.may; (try rw [hpv]); (try dsimp only); (try rw [c42_31]); (try rw [c48_36]); (try rw [c53_41]); (try rw [c64_43]); (try rw [c78_44]); (try rw [c81_45]); (try rw [c85_49]); rfl
             have hnz : (p.entries : Int) ≠ 0 := by simpa using c85_49
             have hz : partsE none L = p.entries := by rw [← hle, partsE_drop L hp, hok, show ((p.entries : Int) != 0) = true from by simpa using hnz]; rfl
             refine ret_of (P := Tryd.prog) (fn := Tryd.f47) (m := [(2, .int .i64 p.entries)]) (w := w46) (res1 rfl (rv_tmp rfl)) ?_
             exact ⟨by rw [c14_2, hrz, hz]; rfl, st47.ext⟩
            ·
             refine W_skip <| n_block <| n_then <| W_region <| RP_sg 2 [.p (.int .i64 (IntKind.i64.wrap (((i : Nat) : Int) + 1))), .p (.int .i64 (IntKind.i64.wrap (((i : Nat) : Int) + 1)))] [(0, a1), (32, a1), (33, .int .i64 ((L.length : Nat) : Int)), (34, .int .i64 (IntKind.i64.wrap (((i : Nat) : Int) + 1)))] trivial ?_
             refine RP_nil ?_
             have hpv : prevP L i = some q := by unfold prevP; rw [if_neg (by omega)]; exact hq
             have hez : p.entries = 0 := by simpa using c85_49
             have hok : partE (prevP L i) p = 0 := by unfold partE Tal.may; (try rw [hpv]); (try dsimp only); (try rw [c42_31]); (try rw [c48_36]); (try rw [c53_41]); (try rw [c64_43]); (try rw [c78_44]); (try rw [c81_45]); (try rw [c85_49]); (try rw [hez]); rfl
             have hz : partsE (prevP L (i + 1)) (L.drop (i + 1)) = partsE none L := by rw [← hle, partsE_drop L hp, hok]; rfl
             exact ⟨_, by omega, (i + 1), rfl, by rw [inc_w (n := i) (by omega)], st47.sub [] (List.sublist_cons_self _ _), by omega, hz, hrz⟩
           ·
            refine W_seq <| W_region <| RP_sg 4 [.p (.pointer (some ⟨g23, 4, none⟩)), .p (.pointer (some ⟨g23, 4, none⟩)), .l 3 (.pointer (some ⟨g23, 4, none⟩)) (.int .i64 p.t.k), .p (.int .i64 p.t.k)] [(0, a1), (7, a24), (11, .int .i64 p.t.k), (32, a1), (33, .int .i64 ((L.length : Nat) : Int)), (34, .int .i64 ((i : Nat) : Int))] ⟨ld1 st39 nagg_3 0 rfl rfl, trivial⟩ ?_
            refine RP_nil <| n_then <| W_seq <| W_region <| RP_sg 3 [.p (.int .i64 p.t.k), .p (.bool (decide (p.t.k < 0))), .p (.bool (decide (p.t.k < 0)))] [(0, a1), (7, a24), (11, .int .i64 p.t.k), (32, a1), (33, .int .i64 ((L.length : Nat) : Int)), (34, .int .i64 ((i : Nat) : Int)), (92, .bool (decide (p.t.k < 0)))] trivial ?_
            rcases Bool.eq_false_or_eq_true (decide (p.t.k < 0)) with c92_50 | c92_50
            ·
             have c92_50p := of_decide_eq_true c92_50
             refine RP_at (m' := [(0, a1), (7, a24), (11, .int .i64 p.t.k), (32, a1), (33, .int .i64 ((L.length : Nat) : Int)), (34, .int .i64 ((i : Nat) : Int)), (92, .bool true)]) (by rw [c92_50]) ?_
             refine RP_sg 14 [.no, .no, .p (.bool true), .p (.bool true), .no, .no, .no, .no, .no, .no, .no, .no, .no, .p (.bool true)] [(0, a1), (32, a1), (33, .int .i64 ((L.length : Nat) : Int)), (34, .int .i64 ((i : Nat) : Int)), (106, .bool true)] trivial ?_
             refine RP_nil <| n_then <| W_true rfl ?_
             refine W_seq <| W_region <| RP_sg 1 [.p (.int .i64 117)] [(2, .int .i64 117)] trivial ?_
             refine RP_nil <| n_then <| W_ret <| r_block <| r_then <| r_loop <| r_block <| r_then ?_
             have hpv : prevP L i = some q := by unfold prevP; rw [if_neg (by omega)]; exact hq
             have hok : partE (prevP L i) p = 117 := by unfold partE Tal.may; (try rw [hpv]); (try dsimp only); (try rw [c42_31]); (try rw [c48_36]); (try rw [c53_41]); (try rw [c64_43]); (try rw [c78_44]); (try rw [c81_45]); (try rw [c92_50]); rfl
             have hnz : (117 : Int) ≠ 0 := (by decide : (117 : Int) ≠ 0)
             have hz : partsE none L = 117 := by rw [← hle, partsE_drop L hp, hok, show ((117 : Int) != 0) = true from by simpa using hnz]; rfl
             refine ret_of (P := Tryd.prog) (fn := Tryd.f47) (m := [(2, .int .i64 117)]) (w := w38) (res1 rfl (rv_tmp rfl)) ?_
             exact ⟨by rw [c14_2, hrz, hz]; rfl, st39.ext⟩
            ·
             have c92_50p := of_decide_eq_false c92_50
             refine RP_at (m' := [(0, a1), (7, a24), (11, .int .i64 p.t.k), (32, a1), (33, .int .i64 ((L.length : Nat) : Int)), (34, .int .i64 ((i : Nat) : Int)), (92, .bool false)]) (by rw [c92_50]) ?_
             refine RP_sg 4 [.p (.int .i64 p.t.k), .p (.bool (decide (p.t.k > 256))), .p (.bool (decide (p.t.k > 256))), .p (.bool (decide (p.t.k > 256)))] [(0, a1), (7, a24), (11, .int .i64 p.t.k), (32, a1), (33, .int .i64 ((L.length : Nat) : Int)), (34, .int .i64 ((i : Nat) : Int)), (96, .bool (decide (p.t.k > 256)))] trivial ?_
             rcases Bool.eq_false_or_eq_true (decide (p.t.k > 256)) with c96_51 | c96_51
             ·
              have c96_51p := of_decide_eq_true c96_51
              refine RP_at (m' := [(0, a1), (7, a24), (11, .int .i64 p.t.k), (32, a1), (33, .int .i64 ((L.length : Nat) : Int)), (34, .int .i64 ((i : Nat) : Int)), (96, .bool true)]) (by rw [c96_51]) ?_
              refine RP_sg 10 [.no, .no, .no, .no, .no, .no, .no, .no, .no, .p (.bool true)] [(0, a1), (32, a1), (33, .int .i64 ((L.length : Nat) : Int)), (34, .int .i64 ((i : Nat) : Int)), (106, .bool true)] trivial ?_
              refine RP_nil <| n_then <| W_true rfl ?_
              refine W_seq <| W_region <| RP_sg 1 [.p (.int .i64 117)] [(2, .int .i64 117)] trivial ?_
              refine RP_nil <| n_then <| W_ret <| r_block <| r_then <| r_loop <| r_block <| r_then ?_
              have hpv : prevP L i = some q := by unfold prevP; rw [if_neg (by omega)]; exact hq
              have hok : partE (prevP L i) p = 117 := by unfold partE Tal.may; (try rw [hpv]); (try dsimp only); (try rw [c42_31]); (try rw [c48_36]); (try rw [c53_41]); (try rw [c64_43]); (try rw [c78_44]); (try rw [c81_45]); (try rw [c92_50]); (try rw [c96_51]); rfl
              have hnz : (117 : Int) ≠ 0 := (by decide : (117 : Int) ≠ 0)
              have hz : partsE none L = 117 := by rw [← hle, partsE_drop L hp, hok, show ((117 : Int) != 0) = true from by simpa using hnz]; rfl
              refine ret_of (P := Tryd.prog) (fn := Tryd.f47) (m := [(2, .int .i64 117)]) (w := w38) (res1 rfl (rv_tmp rfl)) ?_
              exact ⟨by rw [c14_2, hrz, hz]; rfl, st39.ext⟩
             ·
              have c96_51p := of_decide_eq_false c96_51
              refine RP_at (m' := [(0, a1), (7, a24), (11, .int .i64 p.t.k), (32, a1), (33, .int .i64 ((L.length : Nat) : Int)), (34, .int .i64 ((i : Nat) : Int)), (96, .bool false)]) (by rw [c96_51]) ?_
              refine RP_sg 3 [.p (.int .i64 p.t.k), .p (.bool (p.t.k == 0)), .p (.bool (p.t.k == 0))] [(0, a1), (7, a24), (32, a1), (33, .int .i64 ((L.length : Nat) : Int)), (34, .int .i64 ((i : Nat) : Int)), (96, .bool false), (99, .bool (p.t.k == 0))] trivial ?_
              rcases Bool.eq_false_or_eq_true (p.t.k == 0) with c99_52 | c99_52
              ·
               refine RP_at (m' := [(0, a1), (7, a24), (32, a1), (33, .int .i64 ((L.length : Nat) : Int)), (34, .int .i64 ((i : Nat) : Int)), (96, .bool false), (99, .bool true)]) (by rw [c99_52]) ?_
               let a53 : Value := .agg #[.int .u64 p.t.a, .int .u64 p.t.b]
               let a54 : Value := .agg #[.int .u64 0, .int .u64 0]
               refine RP_sg 4 [.p (.pointer (some ⟨g23, 4, none⟩)), .p (.pointer (some ⟨g23, 5, none⟩)), .l 30 (.pointer (some ⟨g23, 5, none⟩)) a53, .p a54] [(0, a1), (32, a1), (33, .int .i64 ((L.length : Nat) : Int)), (34, .int .i64 ((i : Nat) : Int)), (96, .bool false), (99, .bool true), (102, a53), (103, a54)] ⟨ldN st39 agg_30 0 rfl rfl rfl, trivial⟩ ?_
               refine RP_g rfl rfl (v := .bool (!(p.t.a == 0 && p.t.b == 0))) (ev_neq (eqSum p.t.a p.t.b 0 0) (by decide) (by kernel_rfl) rfl rfl) ?_
               refine RP_sg 2 [.p (.bool (!(p.t.a == 0 && p.t.b == 0))), .p (.bool (!(p.t.a == 0 && p.t.b == 0)))] [(0, a1), (32, a1), (33, .int .i64 ((L.length : Nat) : Int)), (34, .int .i64 ((i : Nat) : Int)), (106, .bool (!(p.t.a == 0 && p.t.b == 0)))] trivial ?_
               refine RP_nil <| n_then <| W_cond rfl (fun c106_55 => ?_) (fun c106_55 => ?_)
               ·
                refine W_seq <| W_region <| RP_sg 1 [.p (.int .i64 117)] [(2, .int .i64 117)] trivial ?_
                refine RP_nil <| n_then <| W_ret <| r_block <| r_then <| r_loop <| r_block <| r_then ?_
                have hpv : prevP L i = some q := by unfold prevP; rw [if_neg (by omega)]; exact hq
                have hok : partE (prevP L i) p = 117 := by unfold partE Tal.may; (try rw [hpv]); (try dsimp only); (try rw [c42_31]); (try rw [c48_36]); (try rw [c53_41]); (try rw [c64_43]); (try rw [c78_44]); (try rw [c81_45]); (try rw [c92_50]); (try rw [c96_51]); (try rw [c99_52]); (try rw [c106_55]); rfl
                have hnz : (117 : Int) ≠ 0 := (by decide : (117 : Int) ≠ 0)
                have hz : partsE none L = 117 := by rw [← hle, partsE_drop L hp, hok, show ((117 : Int) != 0) = true from by simpa using hnz]; rfl
                refine ret_of (P := Tryd.prog) (fn := Tryd.f47) (m := [(2, .int .i64 117)]) (w := w38) (res1 rfl (rv_tmp rfl)) ?_
                exact ⟨by rw [c14_2, hrz, hz]; rfl, st39.ext⟩
               ·
                refine W_skip <| n_block <| n_then <| W_region <| RP_sg 2 [.p (.int .i64 (IntKind.i64.wrap (((i : Nat) : Int) + 1))), .p (.int .i64 (IntKind.i64.wrap (((i : Nat) : Int) + 1)))] [(0, a1), (32, a1), (33, .int .i64 ((L.length : Nat) : Int)), (34, .int .i64 (IntKind.i64.wrap (((i : Nat) : Int) + 1)))] trivial ?_
                refine RP_nil ?_
                have hpv : prevP L i = some q := by unfold prevP; rw [if_neg (by omega)]; exact hq
                have hok : partE (prevP L i) p = 0 := by unfold partE Tal.may; (try rw [hpv]); (try dsimp only); (try rw [c42_31]); (try rw [c48_36]); (try rw [c53_41]); (try rw [c64_43]); (try rw [c78_44]); (try rw [c81_45]); (try rw [c92_50]); (try rw [c96_51]); (try rw [c99_52]); (try rw [c106_55]); rfl
                have hz : partsE (prevP L (i + 1)) (L.drop (i + 1)) = partsE none L := by rw [← hle, partsE_drop L hp, hok]; rfl
                exact ⟨_, by omega, (i + 1), rfl, by rw [inc_w (n := i) (by omega)], st39.sub [] (List.sublist_cons_self _ _), by omega, hz, hrz⟩
              ·
               refine RP_at (m' := [(0, a1), (7, a24), (32, a1), (33, .int .i64 ((L.length : Nat) : Int)), (34, .int .i64 ((i : Nat) : Int)), (96, .bool false), (99, .bool false)]) (by rw [c99_52]) ?_
               refine RP_sg 7 [.no, .no, .no, .no, .no, .p (.bool false), .p (.bool false)] [(0, a1), (32, a1), (33, .int .i64 ((L.length : Nat) : Int)), (34, .int .i64 ((i : Nat) : Int)), (106, .bool false)] trivial ?_
               refine RP_nil <| n_then <| W_false rfl ?_
               refine W_skip <| n_block <| n_then <| W_region <| RP_sg 2 [.p (.int .i64 (IntKind.i64.wrap (((i : Nat) : Int) + 1))), .p (.int .i64 (IntKind.i64.wrap (((i : Nat) : Int) + 1)))] [(0, a1), (32, a1), (33, .int .i64 ((L.length : Nat) : Int)), (34, .int .i64 (IntKind.i64.wrap (((i : Nat) : Int) + 1)))] trivial ?_
               refine RP_nil ?_
               have hpv : prevP L i = some q := by unfold prevP; rw [if_neg (by omega)]; exact hq
               have hok : partE (prevP L i) p = 0 := by unfold partE Tal.may; (try rw [hpv]); (try dsimp only); (try rw [c42_31]); (try rw [c48_36]); (try rw [c53_41]); (try rw [c64_43]); (try rw [c78_44]); (try rw [c81_45]); (try rw [c92_50]); (try rw [c96_51]); (try rw [c99_52]); rfl
               have hz : partsE (prevP L (i + 1)) (L.drop (i + 1)) = partsE none L := by rw [← hle, partsE_drop L hp, hok]; rfl
               exact ⟨_, by omega, (i + 1), rfl, by rw [inc_w (n := i) (by omega)], st39.sub [] (List.sublist_cons_self _ _), by omega, hz, hrz⟩
        ·
         have c56_42p := of_decide_eq_false c56_42
         refine RS_at (m' := [(0, a1), (6, .int .i64 ((i : Nat) : Int)), (7, a24), (32, a1), (33, .int .i64 ((L.length : Nat) : Int)), (34, .int .i64 ((i : Nat) : Int)), (53, .bool false), (56, .bool false)]) (by rw [c56_42]) ?_
         refine RS_sg 22 [.no, .no, .no, .no, .no, .no, .no, .no, .no, .no, .no, .no, .no, .no, .no, .no, .no, .no, .no, .no, .p (.bool false), .p (.bool false)] [(0, a1), (7, a24), (32, a1), (33, .int .i64 ((L.length : Nat) : Int)), (34, .int .i64 ((i : Nat) : Int)), (78, .bool false)] (⟨st39.get 0 rfl, hin.ext0 st39.ext⟩) (fun _ hS => trivial) ?_
         refine RS_nil <| n_then <| W_false rfl ?_
         refine W_skip <| n_then <| W_seq <| W_region <| RP_sg 3 [.p a24, .l 3 a24 (.int .i64 p.k), .p (.bool (p.k != 1))] [(0, a1), (7, a24), (32, a1), (33, .int .i64 ((L.length : Nat) : Int)), (34, .int .i64 ((i : Nat) : Int)), (81, .bool (p.k != 1))] ⟨ld1 st39 nagg_3 0 rfl rfl, trivial⟩ ?_
         refine RP_nil <| n_then <| W_cond rfl (fun c81_56 => ?_) (fun c81_56 => ?_)
         ·
          refine W_seq <| W_region <| RP_sg 1 [.l 34 a24 a19] [(0, a1), (32, a1), (33, .int .i64 ((L.length : Nat) : Int)), (34, .int .i64 ((i : Nat) : Int)), (82, a19)] ⟨ldN st39 agg_34 0 rfl rfl rfl, trivial⟩ ?_
          refine RP_e rfl (ef_call (k := 106) (args := [a19]) (checkEntries_cr p ((hps p (List.mem_of_getElem? hp)).ext0 st39.ext) hpe) body_106 (by kernel_rfl)) ?_
          rintro _ w57 ⟨_, rfl, rfl, hx59⟩
          have st58 := st39.call0 hx59
          refine RP_sg 1 [.p (.int .i64 p.entries)] [(0, a1), (10, .int .i64 p.entries), (32, a1), (33, .int .i64 ((L.length : Nat) : Int)), (34, .int .i64 ((i : Nat) : Int))] trivial ?_
          refine RP_nil <| n_then <| W_seq <| W_region <| RP_sg 2 [.p (.int .i64 p.entries), .p (.bool (p.entries != 0))] [(0, a1), (10, .int .i64 p.entries), (32, a1), (33, .int .i64 ((L.length : Nat) : Int)), (34, .int .i64 ((i : Nat) : Int)), (85, .bool (p.entries != 0))] trivial ?_
          refine RP_nil <| n_then <| W_cond rfl (fun c85_60 => ?_) (fun c85_60 => ?_)
          ·
           refine W_seq <| W_region <| RP_sg 2 [.p (.int .i64 p.entries), .p (.int .i64 p.entries)] [(2, .int .i64 p.entries)] trivial ?_
           refine RP_nil <| n_then <| W_ret <| r_block <| r_then <| r_loop <| r_block <| r_then ?_
           have hpv : prevP L i = none := by unfold prevP; rw [if_pos (by omega)]
           have hok : partE (prevP L i) p = p.entries := by unfold partE Tal.may; (try rw [hpv]); (try dsimp only); (try rw [c42_31]); (try rw [c48_36]); (try rw [c53_41]); (try rw [c81_56]); (try rw [c85_60]); rfl
           have hnz : (p.entries : Int) ≠ 0 := by simpa using c85_60
           have hz : partsE none L = p.entries := by rw [← hle, partsE_drop L hp, hok, show ((p.entries : Int) != 0) = true from by simpa using hnz]; rfl
           refine ret_of (P := Tryd.prog) (fn := Tryd.f47) (m := [(2, .int .i64 p.entries)]) (w := w57) (res1 rfl (rv_tmp rfl)) ?_
           exact ⟨by rw [c14_2, hrz, hz]; rfl, st58.ext⟩
          ·
           refine W_skip <| n_block <| n_then <| W_region <| RP_sg 2 [.p (.int .i64 (IntKind.i64.wrap (((i : Nat) : Int) + 1))), .p (.int .i64 (IntKind.i64.wrap (((i : Nat) : Int) + 1)))] [(0, a1), (32, a1), (33, .int .i64 ((L.length : Nat) : Int)), (34, .int .i64 (IntKind.i64.wrap (((i : Nat) : Int) + 1)))] trivial ?_
           refine RP_nil ?_
           have hpv : prevP L i = none := by unfold prevP; rw [if_pos (by omega)]
           have hez : p.entries = 0 := by simpa using c85_60
           have hok : partE (prevP L i) p = 0 := by unfold partE Tal.may; (try rw [hpv]); (try dsimp only); (try rw [c42_31]); (try rw [c48_36]); (try rw [c53_41]); (try rw [c81_56]); (try rw [c85_60]); (try rw [hez]); rfl
           have hz : partsE (prevP L (i + 1)) (L.drop (i + 1)) = partsE none L := by rw [← hle, partsE_drop L hp, hok]; rfl
           exact ⟨_, by omega, (i + 1), rfl, by rw [inc_w (n := i) (by omega)], st58.sub [] (List.sublist_cons_self _ _), by omega, hz, hrz⟩
         ·
          refine W_seq <| W_region <| RP_sg 4 [.p (.pointer (some ⟨g23, 4, none⟩)), .p (.pointer (some ⟨g23, 4, none⟩)), .l 3 (.pointer (some ⟨g23, 4, none⟩)) (.int .i64 p.t.k), .p (.int .i64 p.t.k)] [(0, a1), (7, a24), (11, .int .i64 p.t.k), (32, a1), (33, .int .i64 ((L.length : Nat) : Int)), (34, .int .i64 ((i : Nat) : Int))] ⟨ld1 st39 nagg_3 0 rfl rfl, trivial⟩ ?_
          refine RP_nil <| n_then <| W_seq <| W_region <| RP_sg 3 [.p (.int .i64 p.t.k), .p (.bool (decide (p.t.k < 0))), .p (.bool (decide (p.t.k < 0)))] [(0, a1), (7, a24), (11, .int .i64 p.t.k), (32, a1), (33, .int .i64 ((L.length : Nat) : Int)), (34, .int .i64 ((i : Nat) : Int)), (92, .bool (decide (p.t.k < 0)))] trivial ?_
          rcases Bool.eq_false_or_eq_true (decide (p.t.k < 0)) with c92_61 | c92_61
          ·
           have c92_61p := of_decide_eq_true c92_61
           refine RP_at (m' := [(0, a1), (7, a24), (11, .int .i64 p.t.k), (32, a1), (33, .int .i64 ((L.length : Nat) : Int)), (34, .int .i64 ((i : Nat) : Int)), (92, .bool true)]) (by rw [c92_61]) ?_
           refine RP_sg 14 [.no, .no, .p (.bool true), .p (.bool true), .no, .no, .no, .no, .no, .no, .no, .no, .no, .p (.bool true)] [(0, a1), (32, a1), (33, .int .i64 ((L.length : Nat) : Int)), (34, .int .i64 ((i : Nat) : Int)), (106, .bool true)] trivial ?_
           refine RP_nil <| n_then <| W_true rfl ?_
           refine W_seq <| W_region <| RP_sg 1 [.p (.int .i64 117)] [(2, .int .i64 117)] trivial ?_
           refine RP_nil <| n_then <| W_ret <| r_block <| r_then <| r_loop <| r_block <| r_then ?_
           have hpv : prevP L i = none := by unfold prevP; rw [if_pos (by omega)]
           have hok : partE (prevP L i) p = 117 := by unfold partE Tal.may; (try rw [hpv]); (try dsimp only); (try rw [c42_31]); (try rw [c48_36]); (try rw [c53_41]); (try rw [c81_56]); (try rw [c92_61]); rfl
           have hnz : (117 : Int) ≠ 0 := (by decide : (117 : Int) ≠ 0)
           have hz : partsE none L = 117 := by rw [← hle, partsE_drop L hp, hok, show ((117 : Int) != 0) = true from by simpa using hnz]; rfl
           refine ret_of (P := Tryd.prog) (fn := Tryd.f47) (m := [(2, .int .i64 117)]) (w := w38) (res1 rfl (rv_tmp rfl)) ?_
           exact ⟨by rw [c14_2, hrz, hz]; rfl, st39.ext⟩
          ·
           have c92_61p := of_decide_eq_false c92_61
           refine RP_at (m' := [(0, a1), (7, a24), (11, .int .i64 p.t.k), (32, a1), (33, .int .i64 ((L.length : Nat) : Int)), (34, .int .i64 ((i : Nat) : Int)), (92, .bool false)]) (by rw [c92_61]) ?_
           refine RP_sg 4 [.p (.int .i64 p.t.k), .p (.bool (decide (p.t.k > 256))), .p (.bool (decide (p.t.k > 256))), .p (.bool (decide (p.t.k > 256)))] [(0, a1), (7, a24), (11, .int .i64 p.t.k), (32, a1), (33, .int .i64 ((L.length : Nat) : Int)), (34, .int .i64 ((i : Nat) : Int)), (96, .bool (decide (p.t.k > 256)))] trivial ?_
           rcases Bool.eq_false_or_eq_true (decide (p.t.k > 256)) with c96_62 | c96_62
           ·
            have c96_62p := of_decide_eq_true c96_62
            refine RP_at (m' := [(0, a1), (7, a24), (11, .int .i64 p.t.k), (32, a1), (33, .int .i64 ((L.length : Nat) : Int)), (34, .int .i64 ((i : Nat) : Int)), (96, .bool true)]) (by rw [c96_62]) ?_
            refine RP_sg 10 [.no, .no, .no, .no, .no, .no, .no, .no, .no, .p (.bool true)] [(0, a1), (32, a1), (33, .int .i64 ((L.length : Nat) : Int)), (34, .int .i64 ((i : Nat) : Int)), (106, .bool true)] trivial ?_
            refine RP_nil <| n_then <| W_true rfl ?_
            refine W_seq <| W_region <| RP_sg 1 [.p (.int .i64 117)] [(2, .int .i64 117)] trivial ?_
            refine RP_nil <| n_then <| W_ret <| r_block <| r_then <| r_loop <| r_block <| r_then ?_
            have hpv : prevP L i = none := by unfold prevP; rw [if_pos (by omega)]
            have hok : partE (prevP L i) p = 117 := by unfold partE Tal.may; (try rw [hpv]); (try dsimp only); (try rw [c42_31]); (try rw [c48_36]); (try rw [c53_41]); (try rw [c81_56]); (try rw [c92_61]); (try rw [c96_62]); rfl
            have hnz : (117 : Int) ≠ 0 := (by decide : (117 : Int) ≠ 0)
            have hz : partsE none L = 117 := by rw [← hle, partsE_drop L hp, hok, show ((117 : Int) != 0) = true from by simpa using hnz]; rfl
            refine ret_of (P := Tryd.prog) (fn := Tryd.f47) (m := [(2, .int .i64 117)]) (w := w38) (res1 rfl (rv_tmp rfl)) ?_
            exact ⟨by rw [c14_2, hrz, hz]; rfl, st39.ext⟩
           ·
            have c96_62p := of_decide_eq_false c96_62
            refine RP_at (m' := [(0, a1), (7, a24), (11, .int .i64 p.t.k), (32, a1), (33, .int .i64 ((L.length : Nat) : Int)), (34, .int .i64 ((i : Nat) : Int)), (96, .bool false)]) (by rw [c96_62]) ?_
            refine RP_sg 3 [.p (.int .i64 p.t.k), .p (.bool (p.t.k == 0)), .p (.bool (p.t.k == 0))] [(0, a1), (7, a24), (32, a1), (33, .int .i64 ((L.length : Nat) : Int)), (34, .int .i64 ((i : Nat) : Int)), (96, .bool false), (99, .bool (p.t.k == 0))] trivial ?_
            rcases Bool.eq_false_or_eq_true (p.t.k == 0) with c99_63 | c99_63
            ·
             refine RP_at (m' := [(0, a1), (7, a24), (32, a1), (33, .int .i64 ((L.length : Nat) : Int)), (34, .int .i64 ((i : Nat) : Int)), (96, .bool false), (99, .bool true)]) (by rw [c99_63]) ?_
             let a64 : Value := .agg #[.int .u64 p.t.a, .int .u64 p.t.b]
             let a65 : Value := .agg #[.int .u64 0, .int .u64 0]
             refine RP_sg 4 [.p (.pointer (some ⟨g23, 4, none⟩)), .p (.pointer (some ⟨g23, 5, none⟩)), .l 30 (.pointer (some ⟨g23, 5, none⟩)) a64, .p a65] [(0, a1), (32, a1), (33, .int .i64 ((L.length : Nat) : Int)), (34, .int .i64 ((i : Nat) : Int)), (96, .bool false), (99, .bool true), (102, a64), (103, a65)] ⟨ldN st39 agg_30 0 rfl rfl rfl, trivial⟩ ?_
             refine RP_g rfl rfl (v := .bool (!(p.t.a == 0 && p.t.b == 0))) (ev_neq (eqSum p.t.a p.t.b 0 0) (by decide) (by kernel_rfl) rfl rfl) ?_
             refine RP_sg 2 [.p (.bool (!(p.t.a == 0 && p.t.b == 0))), .p (.bool (!(p.t.a == 0 && p.t.b == 0)))] [(0, a1), (32, a1), (33, .int .i64 ((L.length : Nat) : Int)), (34, .int .i64 ((i : Nat) : Int)), (106, .bool (!(p.t.a == 0 && p.t.b == 0)))] trivial ?_
             refine RP_nil <| n_then <| W_cond rfl (fun c106_66 => ?_) (fun c106_66 => ?_)
             ·
              refine W_seq <| W_region <| RP_sg 1 [.p (.int .i64 117)] [(2, .int .i64 117)] trivial ?_
              refine RP_nil <| n_then <| W_ret <| r_block <| r_then <| r_loop <| r_block <| r_then ?_
              have hpv : prevP L i = none := by unfold prevP; rw [if_pos (by omega)]
              have hok : partE (prevP L i) p = 117 := by unfold partE Tal.may; (try rw [hpv]); (try dsimp only); (try rw [c42_31]); (try rw [c48_36]); (try rw [c53_41]); (try rw [c81_56]); (try rw [c92_61]); (try rw [c96_62]); (try rw [c99_63]); (try rw [c106_66]); rfl
              have hnz : (117 : Int) ≠ 0 := (by decide : (117 : Int) ≠ 0)
              have hz : partsE none L = 117 := by rw [← hle, partsE_drop L hp, hok, show ((117 : Int) != 0) = true from by simpa using hnz]; rfl
              refine ret_of (P := Tryd.prog) (fn := Tryd.f47) (m := [(2, .int .i64 117)]) (w := w38) (res1 rfl (rv_tmp rfl)) ?_
              exact ⟨by rw [c14_2, hrz, hz]; rfl, st39.ext⟩
             ·
              refine W_skip <| n_block <| n_then <| W_region <| RP_sg 2 [.p (.int .i64 (IntKind.i64.wrap (((i : Nat) : Int) + 1))), .p (.int .i64 (IntKind.i64.wrap (((i : Nat) : Int) + 1)))] [(0, a1), (32, a1), (33, .int .i64 ((L.length : Nat) : Int)), (34, .int .i64 (IntKind.i64.wrap (((i : Nat) : Int) + 1)))] trivial ?_
              refine RP_nil ?_
              have hpv : prevP L i = none := by unfold prevP; rw [if_pos (by omega)]
              have hok : partE (prevP L i) p = 0 := by unfold partE Tal.may; (try rw [hpv]); (try dsimp only); (try rw [c42_31]); (try rw [c48_36]); (try rw [c53_41]); (try rw [c81_56]); (try rw [c92_61]); (try rw [c96_62]); (try rw [c99_63]); (try rw [c106_66]); rfl
              have hz : partsE (prevP L (i + 1)) (L.drop (i + 1)) = partsE none L := by rw [← hle, partsE_drop L hp, hok]; rfl
              exact ⟨_, by omega, (i + 1), rfl, by rw [inc_w (n := i) (by omega)], st39.sub [] (List.sublist_cons_self _ _), by omega, hz, hrz⟩
            ·
             refine RP_at (m' := [(0, a1), (7, a24), (32, a1), (33, .int .i64 ((L.length : Nat) : Int)), (34, .int .i64 ((i : Nat) : Int)), (96, .bool false), (99, .bool false)]) (by rw [c99_63]) ?_
             refine RP_sg 7 [.no, .no, .no, .no, .no, .p (.bool false), .p (.bool false)] [(0, a1), (32, a1), (33, .int .i64 ((L.length : Nat) : Int)), (34, .int .i64 ((i : Nat) : Int)), (106, .bool false)] trivial ?_
             refine RP_nil <| n_then <| W_false rfl ?_
             refine W_skip <| n_block <| n_then <| W_region <| RP_sg 2 [.p (.int .i64 (IntKind.i64.wrap (((i : Nat) : Int) + 1))), .p (.int .i64 (IntKind.i64.wrap (((i : Nat) : Int) + 1)))] [(0, a1), (32, a1), (33, .int .i64 ((L.length : Nat) : Int)), (34, .int .i64 (IntKind.i64.wrap (((i : Nat) : Int) + 1)))] trivial ?_
             refine RP_nil ?_
             have hpv : prevP L i = none := by unfold prevP; rw [if_pos (by omega)]
             have hok : partE (prevP L i) p = 0 := by unfold partE Tal.may; (try rw [hpv]); (try dsimp only); (try rw [c42_31]); (try rw [c48_36]); (try rw [c53_41]); (try rw [c81_56]); (try rw [c92_61]); (try rw [c96_62]); (try rw [c99_63]); rfl
             have hz : partsE (prevP L (i + 1)) (L.drop (i + 1)) = partsE none L := by rw [← hle, partsE_drop L hp, hok]; rfl
             exact ⟨_, by omega, (i + 1), rfl, by rw [inc_w (n := i) (by omega)], st39.sub [] (List.sublist_cons_self _ _), by omega, hz, hrz⟩
    ·
     have c35_18p := of_decide_eq_false c35_18
     refine W_exit ?_
     refine e_then <| e_loop <| e_here ?_
     refine n_then <| W_seq <| W_region <| RP_sg 1 [.p (.int .i64 0)] [(2, .int .i64 0)] trivial ?_
     refine RP_nil <| n_then <| W_ret ?_
     have hiL : i = L.length := by omega
     rw [hiL, List.drop_length] at hle
     have hz : partsE none L = 0 := hle.symm
     refine ret_of (P := Tryd.prog) (fn := Tryd.f47) (m := [(2, .int .i64 0)]) (w := w17) (res1 rfl (rv_tmp rfl)) ?_
     exact ⟨by (try rw [c14_2]); (try rw [c35_18]); rw [hz, hrz]; rfl, st16.ext⟩
end Go.Proofs.YtcopemgkjbaaeaaDoor
namespace Go.Proofs.YtcopemgkjbaaeaaDoor
set_option linter.all false
open Go.RowKit
theorem InS.of_blk {w : World} {g : Nat} {t : TypeId} {cs : List Value} (h : Blk w g t cs.toArray) : InS w (some ⟨g, 0, none⟩) cs := .inr ⟨rfl, h.lt, fun j u hu => by
  show w.cell? ⟨g, 0 + j, none⟩ = some u
  rw [Nat.zero_add, h.cell j]; simpa using hu⟩
def Prt.zero : Prt := ⟨0, ⟨⟨#[]⟩, ⟨#[]⟩, false⟩, Tal.zero, [], none, 0⟩
end Go.Proofs.YtcopemgkjbaaeaaDoor
namespace Go.Proofs.YtcopemgkjbaaeaaDoor
set_option linter.all false
open Go.RowKit
theorem blt_total : ∀ a b : List UInt8, (Op.bytesLess a b || a == b) = !(Op.bytesLess b a)
  | [], [] => by simp [Op.bytesLess]
  | [], b :: y => by simp [Op.bytesLess]
  | a :: x, [] => by simp [Op.bytesLess]
  | a :: x, b :: y => by
    have ih := blt_total x y
    simp only [Op.bytesLess, List.cons_beq_cons]
    rcases Nat.lt_trichotomy a.toNat b.toNat with h | h | h
    · have h1 : a < b := UInt8.lt_iff_toNat_lt.2 h
      have h2 : ¬ b < a := fun h3 => by have := UInt8.lt_iff_toNat_lt.1 h3; omega
      have h3 : (b == a) = false := by simp; intro e; subst e; omega
      simp [h1, h2, h3]
    · have e : a = b := UInt8.toNat_inj.1 h
      subst e
      simpa using ih
    · have h1 : b < a := UInt8.lt_iff_toNat_lt.2 h
      have h2 : ¬ a < b := fun h3 => by have := UInt8.lt_iff_toNat_lt.1 h3; omega
      have h3 : (a == b) = false := by simp; intro e; subst e; omega
      simp [h1, h2, h3]
theorem ref03ver_cr (c n : Int) (w : World) : CR Tryd.prog 132 [.agg #[.int .i64 c, .int .i64 n]] w fun v w' => v = .int .i64 (cond (verOk c n) 0 30) ∧ Ext [] w w' := by
  have st := St.init w []
  refine CR_enter Tryd.func132 rfl Tryd.ntmps132 rfl ?_
  refine W_seq <| W_region <| RP_e rfl (ef_box st rfl rfl) ?_
  rintro _ w1 ⟨g4, rfl, hg4, hg4', st2, hx3⟩
  replace st2 : St [] w w1 [(g4, 59, [.int .i64 c, .int .i64 n])] := st2
  let a5 : Value := .pointer (some ⟨g4, 0, none⟩)
  refine RP_sg 1 [.p (.int .i64 0)] [(1, a5)] trivial ?_
  refine RP_nil <| n_then <| W_seq <| W_seq <| W_region <| RP_sg 4 [.p a5, .l 3 a5 (.int .i64 c), .p (.bool (decide (c < 1))), .p (.bool (decide (c < 1)))] [(1, a5), (6, .bool (decide (c < 1)))] ⟨ld1 st2 nagg_3 0 rfl rfl, trivial⟩ ?_
  rcases Bool.eq_false_or_eq_true (decide (c < 1)) with c6_6 | c6_6
  ·
   have c6_6p := of_decide_eq_true c6_6
   refine RP_at (m' := [(1, a5), (6, .bool true)]) (by rw [c6_6]) ?_
   refine RP_sg 14 [.no, .no, .no, .p (.bool true), .p (.bool true), .no, .no, .no, .p (.bool true), .p (.bool true), .no, .no, .no, .p (.bool true)] [(20, .bool true)] trivial ?_
   refine RP_nil <| n_then <| W_true rfl ?_
   refine W_seq <| W_region <| RP_sg 1 [.p (.int .i64 30)] [(2, .int .i64 30)] trivial ?_
   refine RP_nil <| n_then <| W_ret <| r_then ?_
   refine ret_of (P := Tryd.prog) (fn := Tryd.f132) (m := [(2, .int .i64 30)]) (w := w1) (res1 rfl (rv_tmp rfl)) ?_
   exact ⟨by rw [show verOk c n = false from by unfold verOk; simp; omega]; rfl, st2.ext⟩
  ·
   have c6_6p := of_decide_eq_false c6_6
   refine RP_at (m' := [(1, a5), (6, .bool false)]) (by rw [c6_6]) ?_
   refine RP_sg 5 [.p a5, .l 3 a5 (.int .i64 c), .p (.bool (decide (c > 1099511627776))), .p (.bool (decide (c > 1099511627776))), .p (.bool (decide (c > 1099511627776)))] [(1, a5), (11, .bool (decide (c > 1099511627776)))] ⟨ld1 st2 nagg_3 0 rfl rfl, trivial⟩ ?_
   rcases Bool.eq_false_or_eq_true (decide (c > 1099511627776)) with c11_7 | c11_7
   ·
    have c11_7p := of_decide_eq_true c11_7
    refine RP_at (m' := [(1, a5), (11, .bool true)]) (by rw [c11_7]) ?_
    refine RP_sg 9 [.no, .no, .no, .p (.bool true), .p (.bool true), .no, .no, .no, .p (.bool true)] [(20, .bool true)] trivial ?_
    refine RP_nil <| n_then <| W_true rfl ?_
    refine W_seq <| W_region <| RP_sg 1 [.p (.int .i64 30)] [(2, .int .i64 30)] trivial ?_
    refine RP_nil <| n_then <| W_ret <| r_then ?_
    refine ret_of (P := Tryd.prog) (fn := Tryd.f132) (m := [(2, .int .i64 30)]) (w := w1) (res1 rfl (rv_tmp rfl)) ?_
    exact ⟨by rw [show verOk c n = false from by unfold verOk; simp; omega]; rfl, st2.ext⟩
   ·
    have c11_7p := of_decide_eq_false c11_7
    refine RP_at (m' := [(1, a5), (11, .bool false)]) (by rw [c11_7]) ?_
    refine RP_sg 5 [.p (.pointer (some ⟨g4, 1, none⟩)), .l 3 (.pointer (some ⟨g4, 1, none⟩)) (.int .i64 n), .p (.bool (decide (n < 0))), .p (.bool (decide (n < 0))), .p (.bool (decide (n < 0)))] [(1, a5), (16, .bool (decide (n < 0)))] ⟨ld1 st2 nagg_3 0 rfl rfl, trivial⟩ ?_
    rcases Bool.eq_false_or_eq_true (decide (n < 0)) with c16_8 | c16_8
    ·
     have c16_8p := of_decide_eq_true c16_8
     refine RP_at (m' := [(1, a5), (16, .bool true)]) (by rw [c16_8]) ?_
     refine RP_sg 4 [.no, .no, .no, .p (.bool true)] [(20, .bool true)] trivial ?_
     refine RP_nil <| n_then <| W_true rfl ?_
     refine W_seq <| W_region <| RP_sg 1 [.p (.int .i64 30)] [(2, .int .i64 30)] trivial ?_
     refine RP_nil <| n_then <| W_ret <| r_then ?_
     refine ret_of (P := Tryd.prog) (fn := Tryd.f132) (m := [(2, .int .i64 30)]) (w := w1) (res1 rfl (rv_tmp rfl)) ?_
     exact ⟨by rw [show verOk c n = false from by unfold verOk; simp; omega]; rfl, st2.ext⟩
    ·
     have c16_8p := of_decide_eq_false c16_8
     refine RP_at (m' := [(1, a5), (16, .bool false)]) (by rw [c16_8]) ?_
     refine RP_sg 4 [.p (.pointer (some ⟨g4, 1, none⟩)), .l 3 (.pointer (some ⟨g4, 1, none⟩)) (.int .i64 n), .p (.bool (decide (n ≥ 8))), .p (.bool (decide (n ≥ 8)))] [(20, .bool (decide (n ≥ 8)))] ⟨ld1 st2 nagg_3 0 rfl rfl, trivial⟩ ?_
     refine RP_nil <| n_then <| W_cond rfl (fun c20_9 => ?_) (fun c20_9 => ?_)
     ·
      have c20_9p := of_decide_eq_true c20_9
      refine W_seq <| W_region <| RP_sg 1 [.p (.int .i64 30)] [(2, .int .i64 30)] trivial ?_
      refine RP_nil <| n_then <| W_ret <| r_then ?_
      refine ret_of (P := Tryd.prog) (fn := Tryd.f132) (m := [(2, .int .i64 30)]) (w := w1) (res1 rfl (rv_tmp rfl)) ?_
      exact ⟨by rw [show verOk c n = false from by unfold verOk; simp; omega]; rfl, st2.ext⟩
     ·
      have c20_9p := of_decide_eq_false c20_9
      refine W_skip <| n_then <| W_seq <| W_region <| RP_sg 1 [.p (.int .i64 0)] [(2, .int .i64 0)] trivial ?_
      refine RP_nil <| n_then <| W_ret <| ret_of (P := Tryd.prog) (fn := Tryd.f132) (m := [(2, .int .i64 0)]) (w := w1) (res1 rfl (rv_tmp rfl)) ?_
      exact ⟨by rw [show verOk c n = true from by unfold verOk; simp; omega]; rfl, st2.ext⟩
theorem ref03_cr (e : Ent) (w : World) : CR Tryd.prog 98 [e.v] w fun v w' => v = .int .i64 e.check ∧ Ext [] w w' := by
  have st := St.init w []
  unfold Ent.check
  refine CR_enter Tryd.func98 rfl Tryd.ntmps98 rfl ?_
  refine W_seq <| W_region <| RP_e rfl (ef_box st rfl rfl) ?_
  rintro _ w1 ⟨g4, rfl, hg4, hg4', st2, hx3⟩
  replace st2 : St [] w w1 [(g4, 61, [.string e.key, .int .i64 e.c, .int .i64 e.n, .string e.val, .bool e.dead])] := st2
  let a5 : Value := .pointer (some ⟨g4, 0, none⟩)
  refine RP_sg 1 [.p (.int .i64 0)] [(1, a5)] trivial ?_
  refine RP_nil <| n_then <| W_seq <| W_seq <| W_region <| RP_sg 4 [.p a5, .l 9 a5 (.string e.key), .p (.int .i64 (((e.key).size : Nat) : Int)), .p (.bool (decide ((((e.key).size : Nat) : Int) > 16)))] [(1, a5), (6, .bool (decide ((((e.key).size : Nat) : Int) > 16)))] ⟨ld1 st2 nagg_9 0 rfl rfl, trivial⟩ ?_
  refine RP_nil <| n_then <| W_cond rfl (fun c6_6 => ?_) (fun c6_6 => ?_)
  ·
   have c6_6p := of_decide_eq_true c6_6
   refine W_seq <| W_region <| RP_sg 1 [.p (.int .i64 20)] [(2, .int .i64 20)] trivial ?_
   refine RP_nil <| n_then <| W_ret <| r_then ?_
   refine ret_of (P := Tryd.prog) (fn := Tryd.f98) (m := [(2, .int .i64 20)]) (w := w1) (res1 rfl (rv_tmp rfl)) ?_
   exact ⟨by (try rw [c6_6]); rfl, st2.ext⟩
  ·
   have c6_6p := of_decide_eq_false c6_6
   refine W_skip <| n_then <| W_seq <| W_seq <| W_region ?_
   let a7 : Value := .agg #[.int .i64 e.c, .int .i64 e.n]
   refine RP_sg 2 [.p (.pointer (some ⟨g4, 1, none⟩)), .l 59 (.pointer (some ⟨g4, 1, none⟩)) a7] [(1, a5), (8, a7)] ⟨ldN st2 agg_59 0 rfl rfl rfl, trivial⟩ ?_
   refine RP_e rfl (ef_call (k := 132) (args := [a7]) (ref03ver_cr _ _ _) body_132 (by kernel_rfl)) ?_
   rintro _ w8 ⟨_, rfl, rfl, hx10⟩
   have st9 := st2.call0 hx10
   refine RP_sg 1 [.p (.bool ((cond (verOk e.c e.n) (0 : Int) 30) != 0))] [(1, a5), (10, .bool ((cond (verOk e.c e.n) (0 : Int) 30) != 0))] trivial ?_
   refine RP_nil <| n_then <| W_cond rfl (fun c10_11 => ?_) (fun c10_11 => ?_)
   ·
    refine W_seq <| W_region <| RP_sg 1 [.p (.int .i64 30)] [(2, .int .i64 30)] trivial ?_
    refine RP_nil <| n_then <| W_ret <| r_then ?_
    refine ret_of (P := Tryd.prog) (fn := Tryd.f98) (m := [(2, .int .i64 30)]) (w := w8) (res1 rfl (rv_tmp rfl)) ?_
    exact ⟨by (try rw [c6_6]); (try rw [c10_11]); rfl, st9.ext⟩
   ·
    refine W_skip <| n_then <| W_seq <| W_seq <| W_region <| RP_sg 4 [.p (.pointer (some ⟨g4, 3, none⟩)), .l 9 (.pointer (some ⟨g4, 3, none⟩)) (.string e.val), .p (.int .i64 (((e.val).size : Nat) : Int)), .p (.bool (decide ((((e.val).size : Nat) : Int) > 32)))] [(1, a5), (14, .bool (decide ((((e.val).size : Nat) : Int) > 32)))] ⟨ld1 st9 nagg_9 0 rfl rfl, trivial⟩ ?_
    refine RP_nil <| n_then <| W_cond rfl (fun c14_12 => ?_) (fun c14_12 => ?_)
    ·
     have c14_12p := of_decide_eq_true c14_12
     refine W_seq <| W_region <| RP_sg 1 [.p (.int .i64 31)] [(2, .int .i64 31)] trivial ?_
     refine RP_nil <| n_then <| W_ret <| r_then ?_
     refine ret_of (P := Tryd.prog) (fn := Tryd.f98) (m := [(2, .int .i64 31)]) (w := w8) (res1 rfl (rv_tmp rfl)) ?_
     exact ⟨by (try rw [c6_6]); (try rw [c10_11]); (try rw [c14_12]); rfl, st9.ext⟩
    ·
     have c14_12p := of_decide_eq_false c14_12
     refine W_skip <| n_then <| W_seq <| W_seq <| W_region <| RP_sg 3 [.p (.pointer (some ⟨g4, 4, none⟩)), .l 4 (.pointer (some ⟨g4, 4, none⟩)) (.bool e.dead), .p (.bool e.dead)] [(1, a5), (17, .bool e.dead)] ⟨ld1 st9 nagg_4 0 rfl rfl, trivial⟩ ?_
     rcases Bool.eq_false_or_eq_true (e.dead) with c17_13 | c17_13
     ·
      refine RP_at (m' := [(1, a5), (17, .bool true)]) (by rw [c17_13]) ?_
      refine RP_sg 4 [.p (.pointer (some ⟨g4, 3, none⟩)), .l 9 (.pointer (some ⟨g4, 3, none⟩)) (.string e.val), .p (.bool (!((e.val).toList == ((⟨#[]⟩ : ByteArray)).toList))), .p (.bool (!((e.val).toList == ((⟨#[]⟩ : ByteArray)).toList)))] [(21, .bool (!((e.val).toList == ((⟨#[]⟩ : ByteArray)).toList)))] ⟨ld1 st9 nagg_9 0 rfl rfl, trivial⟩ ?_
      refine RP_nil <| n_then <| W_cond rfl (fun c21_14 => ?_) (fun c21_14 => ?_)
      ·
       refine W_seq <| W_region <| RP_sg 1 [.p (.int .i64 32)] [(2, .int .i64 32)] trivial ?_
       refine RP_nil <| n_then <| W_ret <| r_then ?_
       refine ret_of (P := Tryd.prog) (fn := Tryd.f98) (m := [(2, .int .i64 32)]) (w := w8) (res1 rfl (rv_tmp rfl)) ?_
       exact ⟨by (try rw [c6_6]); (try rw [c10_11]); (try rw [c14_12]); (try rw [c17_13]); (try rw [c21_14]); rfl, st9.ext⟩
      ·
       refine W_skip <| n_then <| W_seq <| W_region <| RP_sg 1 [.p (.int .i64 0)] [(2, .int .i64 0)] trivial ?_
       refine RP_nil <| n_then <| W_ret <| ret_of (P := Tryd.prog) (fn := Tryd.f98) (m := [(2, .int .i64 0)]) (w := w8) (res1 rfl (rv_tmp rfl)) ?_
       exact ⟨by (try rw [c6_6]); (try rw [c10_11]); (try rw [c14_12]); (try rw [c17_13]); (try rw [c21_14]); rfl, st9.ext⟩
     ·
      refine RP_at (m' := [(1, a5), (17, .bool false)]) (by rw [c17_13]) ?_
      refine RP_sg 4 [.no, .no, .no, .p (.bool false)] [(21, .bool false)] trivial ?_
      refine RP_nil <| n_then <| W_false rfl ?_
      refine W_skip <| n_then <| W_seq <| W_region <| RP_sg 1 [.p (.int .i64 0)] [(2, .int .i64 0)] trivial ?_
      refine RP_nil <| n_then <| W_ret <| ret_of (P := Tryd.prog) (fn := Tryd.f98) (m := [(2, .int .i64 0)]) (w := w8) (res1 rfl (rv_tmp rfl)) ?_
      exact ⟨by (try rw [c6_6]); (try rw [c10_11]); (try rw [c14_12]); (try rw [c17_13]); rfl, st9.ext⟩
theorem ref02_cr (r : Rng) (w : World) : CR Tryd.prog 43 [r.v] w fun v w' => v = .int .i64 r.check ∧ Ext [] w w' := by
  have st := St.init w []
  unfold Rng.check kgt
  refine CR_enter Tryd.func43 rfl Tryd.ntmps43 rfl ?_
  refine W_seq <| W_region <| RP_e rfl (ef_box st rfl rfl) ?_
  rintro _ w1 ⟨g4, rfl, hg4, hg4', st2, hx3⟩
  replace st2 : St [] w w1 [(g4, 24, [.string r.lo, .string r.hi, .bool r.op])] := st2
  let a5 : Value := .pointer (some ⟨g4, 0, none⟩)
  refine RP_sg 1 [.p (.int .i64 0)] [(1, a5)] trivial ?_
  refine RP_nil <| n_then <| W_seq <| W_seq <| W_region <| RP_sg 5 [.p a5, .l 9 a5 (.string r.lo), .p (.int .i64 (((r.lo).size : Nat) : Int)), .p (.bool (decide ((((r.lo).size : Nat) : Int) > 16))), .p (.bool (decide ((((r.lo).size : Nat) : Int) > 16)))] [(1, a5), (7, .bool (decide ((((r.lo).size : Nat) : Int) > 16)))] ⟨ld1 st2 nagg_9 0 rfl rfl, trivial⟩ ?_
  rcases Bool.eq_false_or_eq_true (decide ((((r.lo).size : Nat) : Int) > 16)) with c7_6 | c7_6
  ·
   have c7_6p := of_decide_eq_true c7_6
   refine RP_at (m' := [(1, a5), (7, .bool true)]) (by rw [c7_6]) ?_
   refine RP_sg 5 [.no, .no, .no, .no, .p (.bool true)] [(1, a5), (12, .bool true)] trivial ?_
   refine RP_nil <| n_then <| W_true rfl ?_
   refine W_seq <| W_region <| RP_sg 1 [.p (.int .i64 20)] [(2, .int .i64 20)] trivial ?_
   refine RP_nil <| n_then <| W_ret <| r_then ?_
   refine ret_of (P := Tryd.prog) (fn := Tryd.f43) (m := [(2, .int .i64 20)]) (w := w1) (res1 rfl (rv_tmp rfl)) ?_
   exact ⟨by (try rw [c7_6]); rfl, st2.ext⟩
  ·
   have c7_6p := of_decide_eq_false c7_6
   refine RP_at (m' := [(1, a5), (7, .bool false)]) (by rw [c7_6]) ?_
   refine RP_sg 5 [.p (.pointer (some ⟨g4, 1, none⟩)), .l 9 (.pointer (some ⟨g4, 1, none⟩)) (.string r.hi), .p (.int .i64 (((r.hi).size : Nat) : Int)), .p (.bool (decide ((((r.hi).size : Nat) : Int) > 16))), .p (.bool (decide ((((r.hi).size : Nat) : Int) > 16)))] [(1, a5), (12, .bool (decide ((((r.hi).size : Nat) : Int) > 16)))] ⟨ld1 st2 nagg_9 0 rfl rfl, trivial⟩ ?_
   refine RP_nil <| n_then <| W_cond rfl (fun c12_7 => ?_) (fun c12_7 => ?_)
   ·
    have c12_7p := of_decide_eq_true c12_7
    refine W_seq <| W_region <| RP_sg 1 [.p (.int .i64 20)] [(2, .int .i64 20)] trivial ?_
    refine RP_nil <| n_then <| W_ret <| r_then ?_
    refine ret_of (P := Tryd.prog) (fn := Tryd.f43) (m := [(2, .int .i64 20)]) (w := w1) (res1 rfl (rv_tmp rfl)) ?_
    exact ⟨by (try rw [c7_6]); (try rw [c12_7]); rfl, st2.ext⟩
   ·
    have c12_7p := of_decide_eq_false c12_7
    refine W_skip <| n_then <| W_seq <| W_seq <| W_region <| RP_sg 3 [.p (.pointer (some ⟨g4, 2, none⟩)), .l 4 (.pointer (some ⟨g4, 2, none⟩)) (.bool r.op), .p (.bool r.op)] [(1, a5), (15, .bool r.op)] ⟨ld1 st2 nagg_4 0 rfl rfl, trivial⟩ ?_
    rcases Bool.eq_false_or_eq_true (r.op) with c15_8 | c15_8
    ·
     refine RP_at (m' := [(1, a5), (15, .bool true)]) (by rw [c15_8]) ?_
     refine RP_sg 5 [.p (.pointer (some ⟨g4, 1, none⟩)), .l 9 (.pointer (some ⟨g4, 1, none⟩)) (.string r.hi), .p (.bool (!((r.hi).toList == ((⟨#[]⟩ : ByteArray)).toList))), .p (.bool (!((r.hi).toList == ((⟨#[]⟩ : ByteArray)).toList))), .p (.bool (!((r.hi).toList == ((⟨#[]⟩ : ByteArray)).toList)))] [(1, a5), (20, .bool (!((r.hi).toList == ((⟨#[]⟩ : ByteArray)).toList)))] ⟨ld1 st2 nagg_9 0 rfl rfl, trivial⟩ ?_
     rcases Bool.eq_false_or_eq_true (!((r.hi).toList == ((⟨#[]⟩ : ByteArray)).toList)) with c20_9 | c20_9
     ·
      refine RP_at (m' := [(1, a5), (20, .bool true)]) (by rw [c20_9]) ?_
      refine RP_sg 11 [.no, .no, .no, .no, .no, .no, .no, .no, .no, .no, .p (.bool true)] [(31, .bool true)] trivial ?_
      refine RP_nil <| n_then <| W_true rfl ?_
      refine W_seq <| W_region <| RP_sg 1 [.p (.int .i64 21)] [(2, .int .i64 21)] trivial ?_
      refine RP_nil <| n_then <| W_ret <| r_then ?_
      refine ret_of (P := Tryd.prog) (fn := Tryd.f43) (m := [(2, .int .i64 21)]) (w := w1) (res1 rfl (rv_tmp rfl)) ?_
      exact ⟨by (try rw [c7_6]); (try rw [c12_7]); (try rw [c15_8]); (try rw [c20_9]); rfl, st2.ext⟩
     ·
      refine RP_at (m' := [(1, a5), (20, .bool false)]) (by rw [c20_9]) ?_
      refine RP_sg 4 [.p (.pointer (some ⟨g4, 2, none⟩)), .l 4 (.pointer (some ⟨g4, 2, none⟩)) (.bool r.op), .p (.bool (!r.op)), .p (.bool (!r.op))] [(1, a5), (20, .bool false), (24, .bool (!r.op))] ⟨ld1 st2 nagg_4 0 rfl rfl, trivial⟩ ?_
      have cn10 : (!r.op) = false := by rw [c15_8]; rfl
      refine RP_at (m' := [(1, a5), (20, .bool false), (24, .bool false)]) (by rw [cn10]) ?_
      refine RP_sg 7 [.no, .no, .no, .no, .no, .p (.bool false), .p (.bool false)] [(31, .bool false)] trivial ?_
      refine RP_nil <| n_then <| W_false rfl ?_
      refine W_skip <| n_then <| W_seq <| W_region <| RP_sg 1 [.p (.int .i64 0)] [(2, .int .i64 0)] trivial ?_
      refine RP_nil <| n_then <| W_ret <| ret_of (P := Tryd.prog) (fn := Tryd.f43) (m := [(2, .int .i64 0)]) (w := w1) (res1 rfl (rv_tmp rfl)) ?_
      exact ⟨by (try rw [c7_6]); (try rw [c12_7]); (try rw [c15_8]); (try rw [c20_9]); (try rw [cn10]); rfl, st2.ext⟩
    ·
     refine RP_at (m' := [(1, a5), (15, .bool false)]) (by rw [c15_8]) ?_
     refine RP_sg 9 [.no, .no, .no, .p (.bool false), .p (.bool false), .p (.pointer (some ⟨g4, 2, none⟩)), .l 4 (.pointer (some ⟨g4, 2, none⟩)) (.bool r.op), .p (.bool (!r.op)), .p (.bool (!r.op))] [(1, a5), (20, .bool false), (24, .bool (!r.op))] ⟨ld1 st2 nagg_4 0 rfl rfl, trivial⟩ ?_
     have cn11 : (!r.op) = true := by rw [c15_8]; rfl
     refine RP_at (m' := [(1, a5), (20, .bool false), (24, .bool true)]) (by rw [cn11]) ?_
     refine RP_sg 7 [.p a5, .l 9 a5 (.string r.lo), .p (.pointer (some ⟨g4, 1, none⟩)), .l 9 (.pointer (some ⟨g4, 1, none⟩)) (.string r.hi), .p (.bool (!(Op.bytesLess (r.lo).toList (r.hi).toList || (r.lo).toList == (r.hi).toList))), .p (.bool (!(Op.bytesLess (r.lo).toList (r.hi).toList || (r.lo).toList == (r.hi).toList))), .p (.bool (!(Op.bytesLess (r.lo).toList (r.hi).toList || (r.lo).toList == (r.hi).toList)))] [(31, .bool (!(Op.bytesLess (r.lo).toList (r.hi).toList || (r.lo).toList == (r.hi).toList)))] ⟨ld1 st2 nagg_9 0 rfl rfl, ld1 st2 nagg_9 0 rfl rfl, trivial⟩ ?_
     refine RP_nil <| n_then <| W_cond rfl (fun c31_12 => ?_) (fun c31_12 => ?_)
     ·
      refine W_seq <| W_region <| RP_sg 1 [.p (.int .i64 21)] [(2, .int .i64 21)] trivial ?_
      refine RP_nil <| n_then <| W_ret <| r_then ?_
      refine ret_of (P := Tryd.prog) (fn := Tryd.f43) (m := [(2, .int .i64 21)]) (w := w1) (res1 rfl (rv_tmp rfl)) ?_
      exact ⟨by (try rw [c7_6]); (try rw [c12_7]); (try rw [c15_8]); (try rw [cn11]); (try rw [c31_12]); rfl, st2.ext⟩
     ·
      refine W_skip <| n_then <| W_seq <| W_region <| RP_sg 1 [.p (.int .i64 0)] [(2, .int .i64 0)] trivial ?_
      refine RP_nil <| n_then <| W_ret <| ret_of (P := Tryd.prog) (fn := Tryd.f43) (m := [(2, .int .i64 0)]) (w := w1) (res1 rfl (rv_tmp rfl)) ?_
      exact ⟨by (try rw [c7_6]); (try rw [c12_7]); (try rw [c15_8]); (try rw [cn11]); (try rw [c31_12]); rfl, st2.ext⟩
theorem ref02holds_cr (r : Rng) (k : ByteArray) (w : World) : CR Tryd.prog 50 [r.v, .string k] w fun v w' => v = .bool (r.holds k) ∧ Ext [] w w' := by
  have st := St.init w []
  unfold Rng.holds kle Rng.below klt
  rw [blt_total]
  refine CR_enter Tryd.func50 rfl Tryd.ntmps50 rfl ?_
  refine W_seq <| W_region <| RP_e rfl (ef_box st rfl rfl) ?_
  rintro _ w1 ⟨g4, rfl, hg4, hg4', st2, hx3⟩
  replace st2 : St [] w w1 [(g4, 24, [.string r.lo, .string r.hi, .bool r.op])] := st2
  let a5 : Value := .pointer (some ⟨g4, 0, none⟩)
  refine RP_sg 1 [.p (.bool false)] [(1, .string k), (2, a5)] trivial ?_
  refine RP_nil <| n_then <| W_seq <| W_region ?_
  let a6 : Value := .agg #[.string r.lo, .string r.hi, .bool r.op]
  refine RP_sg 1 [.l 24 a5 a6] [(1, .string k), (2, a5), (5, a6)] ⟨ldN st2 agg_24 0 rfl rfl rfl, trivial⟩ ?_
  refine RP_e rfl (ef_call (k := 43) (args := [a6]) (ref02_cr r _) body_43 (by kernel_rfl)) ?_
  rintro _ w7 ⟨_, rfl, rfl, hx9⟩
  have st8 := st2.call0 hx9
  refine RP_sg 2 [.p (.bool (r.check == 0)), .p (.bool (r.check == 0))] [(1, .string k), (2, a5), (8, .bool (r.check == 0))] trivial ?_
  rcases Bool.eq_false_or_eq_true (r.check == 0) with c8_10 | c8_10
  ·
   refine RP_at (m' := [(1, .string k), (2, a5), (8, .bool true)]) (by rw [c8_10]) ?_
   refine RP_sg 5 [.p (.string k), .p (.int .i64 (((k).size : Nat) : Int)), .p (.bool (decide ((((k).size : Nat) : Int) ≤ 16))), .p (.bool (decide ((((k).size : Nat) : Int) ≤ 16))), .p (.bool (decide ((((k).size : Nat) : Int) ≤ 16)))] [(1, .string k), (2, a5), (13, .bool (decide ((((k).size : Nat) : Int) ≤ 16)))] trivial ?_
   rcases Bool.eq_false_or_eq_true (decide ((((k).size : Nat) : Int) ≤ 16)) with c13_11 | c13_11
   ·
    have c13_11p := of_decide_eq_true c13_11
    refine RP_at (m' := [(1, .string k), (2, a5), (13, .bool true)]) (by rw [c13_11]) ?_
    refine RP_sg 6 [.p (.string k), .p a5, .l 9 a5 (.string r.lo), .p (.bool (!(Op.bytesLess (k).toList (r.lo).toList))), .p (.bool (!(Op.bytesLess (k).toList (r.lo).toList))), .p (.bool (!(Op.bytesLess (k).toList (r.lo).toList)))] [(1, .string k), (2, a5), (19, .bool (!(Op.bytesLess (k).toList (r.lo).toList)))] ⟨ld1 st8 nagg_9 0 rfl rfl, trivial⟩ ?_
    rcases Bool.eq_false_or_eq_true (!(Op.bytesLess (k).toList (r.lo).toList)) with c19_12 | c19_12
    ·
     refine RP_at (m' := [(1, .string k), (2, a5), (19, .bool true)]) (by rw [c19_12]) ?_
     refine RP_sg 3 [.p (.pointer (some ⟨g4, 2, none⟩)), .l 4 (.pointer (some ⟨g4, 2, none⟩)) (.bool r.op), .p (.bool r.op)] [(1, .string k), (2, a5), (19, .bool true), (22, .bool r.op)] ⟨ld1 st8 nagg_4 0 rfl rfl, trivial⟩ ?_
     rcases Bool.eq_false_or_eq_true (r.op) with c22_13 | c22_13
     ·
      refine RP_at (m' := [(1, .string k), (2, a5), (19, .bool true), (22, .bool true)]) (by rw [c22_13]) ?_
      refine RP_sg 7 [.no, .no, .no, .no, .p (.bool true), .p (.bool true), .p (.bool true)] [(4, .bool true)] trivial ?_
      refine RP_nil <| n_then <| W_ret <| ret_of (P := Tryd.prog) (fn := Tryd.f50) (m := [(4, .bool true)]) (w := w7) (res1 rfl (rv_tmp rfl)) ?_
      exact ⟨by (try rw [c8_10]); (try rw [c13_11]); (try rw [c19_12]); (try rw [c22_13]); rfl, st8.ext⟩
     ·
      refine RP_at (m' := [(1, .string k), (2, a5), (19, .bool true), (22, .bool false)]) (by rw [c22_13]) ?_
      refine RP_sg 7 [.p (.string k), .p (.pointer (some ⟨g4, 1, none⟩)), .l 9 (.pointer (some ⟨g4, 1, none⟩)) (.string r.hi), .p (.bool (Op.bytesLess (k).toList (r.hi).toList)), .p (.bool (Op.bytesLess (k).toList (r.hi).toList)), .p (.bool (Op.bytesLess (k).toList (r.hi).toList)), .p (.bool (Op.bytesLess (k).toList (r.hi).toList))] [(4, .bool (Op.bytesLess (k).toList (r.hi).toList))] ⟨ld1 st8 nagg_9 0 rfl rfl, trivial⟩ ?_
      refine RP_nil <| n_then <| W_ret <| ret_of (P := Tryd.prog) (fn := Tryd.f50) (m := [(4, .bool (Op.bytesLess (k).toList (r.hi).toList))]) (w := w7) (res1 rfl (rv_tmp rfl)) ?_
      exact ⟨by (try rw [c8_10]); (try rw [c13_11]); (try rw [c19_12]); (try rw [c22_13]); rfl, st8.ext⟩
    ·
     refine RP_at (m' := [(1, .string k), (2, a5), (19, .bool false)]) (by rw [c19_12]) ?_
     refine RP_sg 10 [.no, .no, .no, .no, .no, .no, .no, .no, .p (.bool false), .p (.bool false)] [(4, .bool false)] trivial ?_
     refine RP_nil <| n_then <| W_ret <| ret_of (P := Tryd.prog) (fn := Tryd.f50) (m := [(4, .bool false)]) (w := w7) (res1 rfl (rv_tmp rfl)) ?_
     exact ⟨by (try rw [c8_10]); (try rw [c13_11]); (try rw [c19_12]); rfl, st8.ext⟩
   ·
    have c13_11p := of_decide_eq_false c13_11
    refine RP_at (m' := [(1, .string k), (2, a5), (13, .bool false)]) (by rw [c13_11]) ?_
    refine RP_sg 16 [.no, .no, .no, .no, .p (.bool false), .p (.bool false), .no, .no, .no, .no, .no, .no, .no, .no, .p (.bool false), .p (.bool false)] [(4, .bool false)] trivial ?_
    refine RP_nil <| n_then <| W_ret <| ret_of (P := Tryd.prog) (fn := Tryd.f50) (m := [(4, .bool false)]) (w := w7) (res1 rfl (rv_tmp rfl)) ?_
    exact ⟨by (try rw [c8_10]); (try rw [c13_11]); rfl, st8.ext⟩
  ·
   refine RP_at (m' := [(1, .string k), (2, a5), (8, .bool false)]) (by rw [c8_10]) ?_
   refine RP_sg 21 [.no, .no, .no, .p (.bool false), .p (.bool false), .no, .no, .no, .no, .p (.bool false), .p (.bool false), .no, .no, .no, .no, .no, .no, .no, .no, .p (.bool false), .p (.bool false)] [(4, .bool false)] trivial ?_
   refine RP_nil <| n_then <| W_ret <| ret_of (P := Tryd.prog) (fn := Tryd.f50) (m := [(4, .bool false)]) (w := w7) (res1 rfl (rv_tmp rfl)) ?_
   exact ⟨by (try rw [c8_10]); rfl, st8.ext⟩
section
variable {P : Program} {n : Nat} {m : SM} {w w0 w' : World} {X : List Nat} {M : List (Nat × TypeId × List Value)}
variable {dst : Option Nat} {ty : TypeId} {pos : String} {af : Array Edge} {gd : Option (Nat × Bool)}
theorem ef_appendI {x y : Operand} {t e : TypeId} {size bytes : Nat} (hT : AppT P t e size bytes) {k c : Nat} {b : Option Addr} {v : Value} {j : Nat} {xs ns : List Value} (st : St X w0 w M) (ha : Acc w0 X w e size v k xs) (hx : opv m x = some v)
    (hy : opv m y = some (.slice b j c)) (hin : InS w b ns) (hl : ns.length = j * size) (h1 : ns.all (·.oneCell) = true) (hn : k + j ≤ maxLen) (hbytes : (k + j) * bytes ≤ 140737488355328) (hdis : ∀ q ∈ M.map (·.1), q ∉ ownB v) :
    Ef P m ⟨dst, .call ⟨.builtin .append, #[x, y], #[t, t]⟩, ty, pos, af, gd⟩ w fun r W => ∃ v', r = some v' ∧ Acc w0 X W e size v' (k + j) (xs ++ ns) ∧ St X w0 W M ∧ Ext (ownB v) w W := fun ρ hρ => by
  obtain ⟨i, z, hi, hz, hs, hb, hzs, hsz⟩ := hT.ex
  have key : ∀ a : Addr, b = some a → (∀ (q : Nat) (u : Value), ns[q]? = some u → w.cell? (a.add q) = some u) → ∃ v' w', (Builtin.append_ #[t, t] ty #[v, .slice b j c]).run P w = .ok v' w' ∧ Acc w0 X w' e size v' (k + j) (xs ++ ns) ∧ St X w0 w' M ∧ Ext (ownB v) w w' := fun a hba hc => by
    subst hba
    obtain ⟨v', w', hr, h2, h3, h4, h5⟩ := run_append_own_at (P := P) w 0 t ty e i z size bytes hT.ht hi hz hs hb hzs hsz v k xs ha.own a j c ns hl hc (fun u hu => by
      have := List.all_eq_true.1 h1 u hu
      cases u <;> simp_all [Value.oneCell, Value.oneCell']) hn hbytes (Nat.zero_le _)
    refine ⟨v', w', hr, ⟨h2, fun q hq => ?_⟩, st.call (Ext.of_grown h3) hdis ha.inn, Ext.of_grown h3⟩
    rcases h5 with h5 | h5
    · exact ha.inn q (by simpa [ownB, h5] using hq)
    · simp [ownB, h5] at hq
      have := st.ext.size
      exact .inr (by omega)
  have main : ∃ v' w', (Builtin.append_ #[t, t] ty #[v, .slice b j c]).run P w = .ok v' w' ∧ Acc w0 X w' e size v' (k + j) (xs ++ ns) ∧ St X w0 w' M ∧ Ext (ownB v) w w' := by
    cases b with
    | none =>
      have hns : ns = [] := by
        rcases hin with h | ⟨h, _⟩
        · exact h
        · cases h
      subst hns
      have hj : j = 0 := by
        rcases Nat.eq_zero_or_pos j with h | h
        · exact h
        · have := Nat.mul_pos h hsz; simp at hl; omega
      subst hj
      obtain ⟨b', c', hv⟩ := ownsRow.form' ha.own
      refine ⟨v, w, ?_, by simpa using ha, st, Ext.refl _ _⟩
      subst hv
      have hkc : k ≤ c' := by
        rcases ha.own.2 with ⟨h, rfl⟩ | ⟨g, cap, cur, h, _, _, h3, _⟩
        · exact Nat.zero_le _
        · injection h with _ _ h; omega
      have hu : P.underlying t = some (.slice e) := hT.ht
      cases b' <;> simp [Builtin.append_, run_underlying hu, sizeOf, typeInfo, hi, Builtin.lenOf, Builtin.firstCells, hkc, storeCells]
    | some a =>
      refine key a rfl fun q u hu => ?_
      rcases hin with h | ⟨h, _, h3⟩
      · subst h; simp at hu
      · obtain ⟨g, o, s⟩ := a
        simp only [sp, so, Option.some.injEq, Addr.mk.injEq, true_and] at h h3
        subst h
        have e : ((⟨g, o, none⟩ : Addr).add q) = ⟨g, o + q, none⟩ := by unfold Addr.add; split <;> simp_all
        rw [e]; exact h3 q u hu
  obtain ⟨v', w', hr, h2, h3, h4⟩ := main
  refine .inl ⟨v', w', ?_, v', rfl, h2, h3, h4⟩
  simp only [execOp, resolve, invoke, builtin, Sem.run_bind, Sem.run_pure, Result.andThen_ok, List.map_toArray, List.map_cons, List.map_nil, hρ.get hx, hρ.get hy, hr]
end
theorem entCells_one (l : List Ent) : (entCells l).all (·.oneCell) = true := by
  induction l with
  | nil => rfl
  | cons e l ih =>
    have : entCells (e :: l) = e.cells ++ entCells l := by simp [entCells]
    rw [this, List.all_append, ih]; rfl
end Go.Proofs.YtcopemgkjbaaeaaDoor
