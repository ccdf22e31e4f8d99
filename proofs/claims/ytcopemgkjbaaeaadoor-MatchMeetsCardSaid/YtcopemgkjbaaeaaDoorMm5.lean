import Derived.Test.YtcopemgkjbaaeaaDoorMm4
import Derived.Test.YtcopemgkjbaaeaaDoorMm3
import Derived.Deep.Slices
import Derived.Deep.Strs
import Derived.Lib.SmallJoins
import Derived.Lib.LaidU8
import Derived.LaidHandle
import Derived.Carry
import Derived.Test.YtcopemgkjbaaeaaDoorRows
import Derived.OpenShut
import Derived.MakeChecks
import Derived.Test.YtcopemgkjbaaeaaDoorCards
import Derived.Test.YtcopemgkjbaaeaaDoorTie
import Derived.ProofKit
import Derived.LaidLaws
import Derived.Handed
import Derived.SevenTiedAt
namespace Go.Proofs.YtcopemgkjbaaeaaDoor
set_option linter.all false
open Go.RowKit
theorem get2_cr {w : World} {bt bm : Nat} {j : Int} {p : Option Addr} {t : T} (k : ByteArray) (hT : Tr w bt bm j p) (ht : IsT w p t) :
    CR Tryd.prog 65 [.pointer (some ⟨bt, 0, none⟩), .string k] w fun v w' => v = .tuple #[(entO (t.get k)).v, .bool (t.get k).isSome] ∧ Ext [] w w' :=
  (get_cr k hT ht).mono fun v w' h => by rw [← entV_eq]; exact h
def T.fullB (t : T) (k : ByteArray) : Bool := !(t.get k).isSome && decide (((t.size : Nat) : Int) ≥ 256)
theorem full_cr {w : World} {gs bm bt : Nat} {p : Option Addr} {node clock j : Int} {t : T} (k : ByteArray) (hS : Sto w gs bm bt p node clock j t) :
    CR Tryd.prog 64 [.pointer (some ⟨gs, 0, none⟩), .string k] w fun v w' => v = .bool (t.fullB k) ∧ Ext [] w w' := by
  have st := St.init w []
  have hb := hS.blk
  have hTr := hS.tr
  have hT := hS.ist
  unfold T.fullB
  refine CR_enter Tryd.func64 rfl Tryd.ntmps64 rfl ?_
  refine W_seq <| W_region ?_
  let a1 : Value := .pointer (some ⟨gs, 0, none⟩)
  refine RP_sg 1 [.p (.bool false)] [(0, a1), (1, .string k)] trivial ?_
  refine RP_nil <| n_then <| W_seq <| W_region ?_
  let a2 : Value := .pointer (some ⟨bt, 0, none⟩)
  refine RP_sg 5 [.p a1, .p a1, .p (.pointer (some ⟨gs, 3, none⟩)), .l 127 (.pointer (some ⟨gs, 3, none⟩)) a2, .p (.string k)] [(0, a1), (11, a2), (12, .string k)] ⟨ld1b (hb.ext st.ext List.not_mem_nil) nagg_127 rfl, trivial⟩ ?_
  refine RP_e rfl (ef_call (k := 65) (args := [a2, .string k]) (get2_cr k hTr hT) body_65 (by kernel_rfl)) ?_
  rintro _ w3 ⟨_, rfl, rfl, hx5⟩
  have st4 := st.call0 hx5
  replace hTr := hTr.ext hx5 (by simp)
  replace hT := hT.to hx5 (NoNode.nil _)
  let a6 : Value := .agg #[.string ((entO (t.get k)).key), .int .i64 ((entO (t.get k)).c), .int .i64 ((entO (t.get k)).n), .string ((entO (t.get k)).val), .bool ((entO (t.get k)).dead)]
  refine RP_sg 3 [.p (.tuple #[a6, .bool ((t.get k).isSome)]), .p a6, .p (.bool ((t.get k).isSome))] [(0, a1), (14, a6), (15, .bool ((t.get k).isSome))] trivial ?_
  refine RP_e rfl (ef_alloc st4 zero_61 rfl) ?_
  rintro _ w7 ⟨g10, rfl, hg10, hg10', st8, hx9⟩
  replace st8 : St [] w w7 [(g10, 61, [.string (⟨#[]⟩ : ByteArray), .int .i64 0, .int .i64 0, .string (⟨#[]⟩ : ByteArray), .bool false])] := st8
  replace hTr := hTr.ext hx9 (by simp)
  replace hT := hT.to hx9 (NoNode.nil _)
  refine RP_e rfl (ef_store st8 rfl rfl rfl size_61 0 rfl rfl rfl rfl (.inr hg10)) ?_
  rintro _ w11 ⟨rfl, st12, hx13⟩
  replace st12 : St [] w w11 [(g10, 61, [.string ((entO (t.get k)).key), .int .i64 ((entO (t.get k)).c), .int .i64 ((entO (t.get k)).n), .string ((entO (t.get k)).val), .bool ((entO (t.get k)).dead)])] := st12
  replace hTr := hTr.ext1 hx13 (st8.get 0 rfl) (by decide) (by decide)
  replace hT := hT.to hx13 (NoNode.one (st8.get 0 rfl) (by decide))
  refine RP_sg 1 [.p (.bool ((t.get k).isSome))] [(0, a1), (6, .bool ((t.get k).isSome))] trivial ?_
  refine RP_nil <| n_then <| W_seq <| W_region <| RP_sg 3 [.p (.bool ((t.get k).isSome)), .p (.bool (!((t.get k).isSome))), .p (.bool (!((t.get k).isSome)))] [(0, a1), (18, .bool (!((t.get k).isSome)))] trivial ?_
  rcases Bool.eq_false_or_eq_true (!((t.get k).isSome)) with c18_14 | c18_14
  ·
   refine RP_at (m' := [(0, a1), (18, .bool true)]) (by rw [c18_14]) ?_
   refine RP_sg 4 [.p a1, .p a1, .p (.pointer (some ⟨gs, 3, none⟩)), .l 127 (.pointer (some ⟨gs, 3, none⟩)) a2] [(18, .bool true), (22, a2)] ⟨ld1b (hb.ext st12.ext List.not_mem_nil) nagg_127 rfl, trivial⟩ ?_
   refine RP_ge rfl rfl (ef_call (k := 111) (args := [a2]) (len_cr hTr hT) body_111 (by kernel_rfl)) ?_
   rintro _ _ ⟨_, rfl, rfl, rfl⟩
   refine RP_sg 3 [.p (.bool (decide (((t.size : Nat) : Int) ≥ 256))), .p (.bool (decide (((t.size : Nat) : Int) ≥ 256))), .p (.bool (decide (((t.size : Nat) : Int) ≥ 256)))] [(4, .bool (decide (((t.size : Nat) : Int) ≥ 256)))] trivial ?_
   refine RP_nil <| n_then <| W_ret <| ret_of (P := Tryd.prog) (fn := Tryd.f64) (m := [(4, .bool (decide (((t.size : Nat) : Int) ≥ 256)))]) (w := w11) (res1 rfl (rv_tmp rfl)) ?_
   exact ⟨by (try rw [c18_14]); rfl, st12.ext⟩
  ·
   refine RP_at (m' := [(0, a1), (18, .bool false)]) (by rw [c18_14]) ?_
   refine RP_sg 4 [.no, .no, .no, .no] [(18, .bool false), (22, undef)] trivial ?_
   refine RP_no rfl rfl (by decide) ?_
   refine RP_sg 3 [.no, .p (.bool false), .p (.bool false)] [(4, .bool false)] trivial ?_
   refine RP_nil <| n_then <| W_ret <| ret_of (P := Tryd.prog) (fn := Tryd.f64) (m := [(4, .bool false)]) (w := w11) (res1 rfl (rv_tmp rfl)) ?_
   exact ⟨by (try rw [c18_14]); rfl, st12.ext⟩
theorem Lanes.ne_blk {w : World} (h : Lanes w) {g : Nat} {t : TypeId} {cs : Array Value} (hb : Blk w g t cs) (hs : cs.size ≠ 6) : 0 ≠ g := by
  rintro rfl
  obtain ⟨t', fr, h1⟩ := h
  unfold Blk at hb
  rw [h1] at hb
  injection hb with hb
  injection hb with h2 _ _
  apply hs
  rw [← h2]; rfl
theorem Lanes.grow {B : Nat} {w w' : World} (h : Lanes w) (hg : Grow B w w') : Lanes w' := by
  obtain ⟨t, fr, h1⟩ := h
  exact ⟨t, fr, (hg.block 0 (lt_of_get h1) (.inr ⟨_, h1, rfl⟩)).trans h1⟩
theorem Sto.not0 {w : World} {gs bm bt : Nat} {p : Option Addr} {node clock j : Int} {t : T} (hS : Sto w gs bm bt p node clock j t) (hl : Lanes w) : 0 ∉ [gs, bt, bm] := by
  have h1 := hl.ne_blk hS.blk (by simp)
  have h2 := hl.ne_blk hS.tr.t (by simp)
  have h3 := hl.ne_blk hS.tr.m (by simp)
  simp [h1, h2, h3]
theorem Sto.ext {w w' : World} {X : List Nat} {gs bm bt : Nat} {p : Option Addr} {node clock j : Int} {t : T} (h : Sto w gs bm bt p node clock j t) (hx : Ext X w w') (hn : NoNode w X) (h1 : gs ∉ X) (h2 : bt ∉ X ∧ bm ∉ X) : Sto w' gs bm bt p node clock j t :=
  ⟨h.blk.ext hx h1, h.tr.ext hx h2, h.ist.to hx hn⟩
theorem Sto.ext0 {w w' : World} {gs bm bt : Nat} {p : Option Addr} {node clock j : Int} {t : T} (h : Sto w gs bm bt p node clock j t) (hx : Ext [] w w') : Sto w' gs bm bt p node clock j t := h.ext hx (NoNode.nil _) (by simp) (by simp)
theorem Sto.grow {B : Nat} {w w' : World} {gs bm bt : Nat} {p : Option Addr} {node clock j : Int} {t : T} (h : Sto w gs bm bt p node clock j t) (hg : Grow B w w') : Sto w' gs bm bt p node clock j t := ⟨h.blk.grow hg, h.tr.grow hg, h.ist.grow hg⟩
theorem Sto.nonode {w : World} {gs bm bt : Nat} {p : Option Addr} {node clock j : Int} {t : T} (h : Sto w gs bm bt p node clock j t) : NoNode w [gs, bt, bm] := fun g cs hg hb => by
  simp only [List.mem_cons, List.not_mem_nil, or_false] at hg
  rcases hg with rfl | rfl | rfl
  · exact Blk.ne_ h.blk hb (by decide) rfl
  · exact Blk.ne_ h.tr.t hb (by decide) rfl
  · exact Blk.ne_ h.tr.m hb (by decide) rfl
theorem Sto.ext1 {w w' : World} {gs bm bt g : Nat} {tt : TypeId} {cs : Array Value} {p : Option Addr} {node clock j : Int} {t : T} (h : Sto w gs bm bt p node clock j t) (hx : Ext [g] w w') (hb : Blk w g tt cs) (h0 : tt ≠ 181) (h1 : tt ≠ 129) (h2 : tt ≠ 179) (h3 : tt ≠ 205) : Sto w' gs bm bt p node clock j t :=
  h.ext hx (NoNode.one hb h0) (by simpa using (hb.ne_ h.blk h1).symm) ⟨by simpa using (hb.ne_ h.tr.t h2).symm, by simpa using (hb.ne_ h.tr.m h3).symm⟩
theorem St.apartS {X : List Nat} {w0 w : World} {M : List (Nat × TypeId × List Value)} (st : St X w0 w M) {gs bm bt : Nat} {p : Option Addr} {node clock j : Int} {t : T} (h : Sto w gs bm bt p node clock j t)
    (ht : M.all (fun x => x.2.1 != 179 && (x.2.1 != 205 && x.2.1 != 129)) = true) : ∀ g ∈ M.map (·.1), g ∉ [gs, bt, bm] := by
  intro g hg hm
  obtain ⟨x, hx, rfl⟩ := List.mem_map.1 hg
  have h1 := List.all_eq_true.1 ht x hx
  simp only [Bool.and_eq_true, bne_iff_ne, ne_eq] at h1
  have hb := st.blk x hx
  simp only [List.mem_cons, List.not_mem_nil, or_false] at hm
  rcases hm with hm | hm | hm
  · exact hb.ne_ h.blk h1.2.2 hm
  · exact hb.ne_ h.tr.t h1.1 hm
  · exact hb.ne_ h.tr.m h1.2.1 hm
theorem max_if (a b : Int) : (if b > a then b else a) = max a b := by split <;> omega
theorem lay_cr {w : World} {gs bm bt : Nat} {p : Option Addr} {node clock j : Int} {t : T} (e : Ent) (hl : Lanes w) (hS : Sto w gs bm bt p node clock j t) (hs : t.size ≤ 10000) (hk : e.key.size < 1000000000) :
    CR Tryd.prog 67 [.pointer (some ⟨gs, 0, none⟩), e.v] w fun v w' => v = .tuple #[] ∧ (∃ p' j', Sto w' gs bm bt p' node (max clock e.c) j' (T.put e t)) ∧ Ext [gs, bt, bm] w w' := by
  have hg0 := hS.not0 hl
  have hbt := hS.tr.t.ne_ hS.blk (by decide)
  have hbm := hS.tr.m.ne_ hS.blk (by decide)
  have st := (St.init w [gs, bt, bm]).add hS.blk (by simp)
  have hTr := hS.tr
  have hT := hS.ist
  refine CR_enter Tryd.func67 rfl Tryd.ntmps67 rfl ?_
  refine W_seq <| W_region <| RP_e rfl (ef_box st rfl rfl) ?_
  rintro _ w1 ⟨g4, rfl, hg4, hg4', st2, hx3⟩
  replace st2 : St [gs, bt, bm] w w1 [(g4, 61, [.string e.key, .int .i64 e.c, .int .i64 e.n, .string e.val, .bool e.dead]), (gs, 129, [.int .i64 node, .int .i64 clock, .pointer (some ⟨bm, 0, none⟩), .pointer (some ⟨bt, 0, none⟩)])] := st2
  replace hTr := hTr.ext hx3 (by simp)
  replace hT := hT.to hx3 (NoNode.nil _)
  let a5 : Value := .pointer (some ⟨gs, 0, none⟩)
  let a6 : Value := .pointer (some ⟨g4, 0, none⟩)
  refine RP_pk [(0, a5), (3, a6)] ?_
  refine RP_nil <| n_then <| W_seq <| W_regionS ⟨(fun w' => Blk w' g4 61 [.string e.key, .int .i64 e.c, .int .i64 e.n, .string e.val, .bool e.dead].toArray ∧ Blk w' gs 129 [.int .i64 node, .int .i64 clock, .pointer (some ⟨bm, 0, none⟩), .pointer (some ⟨bt, 0, none⟩)].toArray), (fun _ => True)⟩ (.cons 1 0 (.cons 1 1 (.cons 1 2 (.cons 1 3 (.cons 1 4 (.cons 1 5 (.cons 1 6 (.cons 1 7 (.cons 2 8 (.cons 2 9 .nil)))))))))) 10 (by kernel_rfl) (by kernel_rfl) ?_
  have st7 := st2.drew
  replace hTr := hTr.drew
  replace hT := hT.drew
  let a8 : Value := .pointer (some ⟨bt, 0, none⟩)
  let a9 : Value := .agg #[.string e.key, .int .i64 e.c, .int .i64 e.n, .string e.val, .bool e.dead]
  refine RS_sg 8 [.p a5, .p a5, .p (.pointer (some ⟨gs, 3, none⟩)), .l 127 (.pointer (some ⟨gs, 3, none⟩)) a8, .p a6, .l 9 a6 (.string e.key), .l 61 a6 a9, .l 61 a6 a9] [(0, a5), (3, a6), (7, a8), (9, .string e.key), (10, a9), (11, a9)] (⟨st7.get 0 rfl, st7.get 1 rfl⟩) (fun _ hS => ⟨ld1b (hS.2) nagg_127 rfl, ld1b (hS.1) nagg_9 rfl, ldNb (hS.1) agg_61 rfl rfl, ldNb (hS.1) agg_61 rfl rfl, trivial⟩) ?_
  refine RS_e rfl rfl (ef_call (k := 103) (args := [a9]) (tallyOf_cr e (hl.ext st7.ext hg0) hk) body_103 (by kernel_rfl)) ?_
  rintro _ w10 ⟨_, rfl, rfl, hx12⟩
  have st11 := st7.call0 hx12
  replace hTr := hTr.ext hx12 (by simp)
  replace hT := hT.to hx12 (NoNode.nil _)
  refine ⟨⟨st11.get 0 rfl, st11.get 1 rfl⟩, ?_⟩
  refine RS_e rfl rfl (ef_call (k := 102) (args := [a8, .string e.key, a9, .agg #[.int .i64 e.tal.k, .int .u64 e.tal.a, .int .u64 e.tal.b]]) (treePut_cr e hTr hT hs) body_102 (by kernel_rfl)) ?_
  rintro _ w13 ⟨_, rfl, rfl, p2, hTr2, hT2, hx15⟩
  have st14 := st11.call hx15 (st11.apart hTr rfl) (by simp)
  replace hTr := hTr2
  replace hT := hT2
  refine ⟨⟨st14.get 0 rfl, st14.get 1 rfl⟩, ?_⟩
  refine RS_pk [(0, a5), (3, a6)] ?_
  refine RS_nil <| n_then <| W_regionS ⟨(fun w' => Blk w' g4 61 [.string e.key, .int .i64 e.c, .int .i64 e.n, .string e.val, .bool e.dead].toArray ∧ Blk w' gs 129 [.int .i64 node, .int .i64 clock, .pointer (some ⟨bm, 0, none⟩), a8].toArray), (fun _ => True)⟩ (.cons 1 0 (.cons 1 1 (.cons 1 2 (.cons 1 3 (.cons 1 4 (.cons 1 5 (.cons 1 6 (.cons 1 7 (.cons 1 8 (.cons 0 9 (.cons 0 10 (.cons 3 11 .nil)))))))))))) 12 (by kernel_rfl) (by kernel_rfl) ?_
  have st16 := st14.drew
  replace hTr := hTr.drew
  replace hT := hT.drew
  refine RS_sg 9 [.p a5, .p a5, .p a5, .p (.pointer (some ⟨gs, 1, none⟩)), .l 3 (.pointer (some ⟨gs, 1, none⟩)) (.int .i64 clock), .p (.pointer (some ⟨g4, 1, none⟩)), .p (.pointer (some ⟨g4, 1, none⟩)), .l 3 (.pointer (some ⟨g4, 1, none⟩)) (.int .i64 e.c), .p (.int .i64 (if e.c > clock then e.c else clock))] [(14, a5), (22, .int .i64 (if e.c > clock then e.c else clock))] (⟨st16.get 0 rfl, st16.get 1 rfl⟩) (fun _ hS => ⟨ld1b (hS.2) nagg_3 rfl, ld1b (hS.1) nagg_3 rfl, trivial⟩) ?_
  let a17 : Value := .pointer (some ⟨gs, 1, none⟩)
  refine RS_sgP 2 [.p a5, .p a17] [(22, .int .i64 (if e.c > clock then e.c else clock)), (24, a17)] (fun _ => trivial) ?_
  refine RS_f rfl rfl (ef_store st16 rfl rfl rfl size_3 1 rfl rfl rfl rfl (.inl (by simp))) ?_
  rintro _ w18 ⟨rfl, st19, hx20⟩
  replace st19 : St [gs, bt, bm] w w18 [(g4, 61, [.string e.key, .int .i64 e.c, .int .i64 e.n, .string e.val, .bool e.dead]), (gs, 129, [.int .i64 node, .int .i64 (if e.c > clock then e.c else clock), .pointer (some ⟨bm, 0, none⟩), .pointer (some ⟨bt, 0, none⟩)])] := st19
  replace hTr := hTr.ext1 hx20 (st16.get 1 rfl) (by decide) (by decide)
  replace hT := hT.to hx20 (NoNode.one (st16.get 1 rfl) (by decide))
  refine RS_pk [] ?_
  refine RS_nil <| end_of (P := Tryd.prog) (fn := Tryd.f67) (m := []) (w := w18) (res0 rfl ) ?_
  exact ⟨rfl, ⟨p2, _, ⟨by rw [← max_if]; exact st19.get 1 rfl, hTr, hT⟩⟩, st19.ext⟩
def takeErr (t : T) (e : Ent) : Int := cond (e.check != 0) e.check (cond (t.fullB e.key) 80 0)
def takes (t : T) (e : Ent) : Bool := (e.check == 0) && (!t.fullB e.key && !((t.get e.key).isSome && !newer e (entO (t.get e.key))))
theorem take_cr {w : World} {gs bm bt : Nat} {p : Option Addr} {node clock j : Int} {t : T} (e : Ent) (hl : Lanes w) (hS : Sto w gs bm bt p node clock j t) (hs : t.size ≤ 10000) :
    CR Tryd.prog 25 [.pointer (some ⟨gs, 0, none⟩), e.v] w fun v w' => v = .tuple #[.bool (takes t e), .int .i64 (takeErr t e)] ∧
      (∃ p' j', Sto w' gs bm bt p' node (cond (takes t e) (max clock e.c) clock) j' (cond (takes t e) (T.put e t) t)) ∧ Ext [gs, bt, bm] w w' := by
  have hg0 := hS.not0 hl
  have st := St.init w [gs, bt, bm]
  have hb := hS.blk
  refine CR_enter Tryd.func25 rfl Tryd.ntmps25 rfl ?_
  refine W_seq <| W_region <| RP_e rfl (ef_box st rfl rfl) ?_
  rintro _ w1 ⟨g4, rfl, hg4, hg4', st2, hx3⟩
  replace st2 : St [gs, bt, bm] w w1 [(g4, 61, [.string e.key, .int .i64 e.c, .int .i64 e.n, .string e.val, .bool e.dead])] := st2
  replace hS := hS.ext0 hx3
  let a5 : Value := .pointer (some ⟨gs, 0, none⟩)
  let a6 : Value := .pointer (some ⟨g4, 0, none⟩)
  refine RP_sg 2 [.p (.bool false), .p (.int .i64 0)] [(0, a5), (3, a6)] trivial ?_
  refine RP_nil <| n_then <| W_seq <| W_seq <| W_region ?_
  let a7 : Value := .agg #[.string e.key, .int .i64 e.c, .int .i64 e.n, .string e.val, .bool e.dead]
  refine RP_sg 1 [.l 61 a6 a7] [(0, a5), (3, a6), (9, a7)] ⟨ldN st2 agg_61 0 rfl rfl rfl, trivial⟩ ?_
  refine RP_e rfl (ef_call (k := 63) (args := [a7]) (itemCheck_cr e _) body_63 (by kernel_rfl)) ?_
  rintro _ w8 ⟨_, rfl, rfl, hx10⟩
  have st9 := st2.call0 hx10
  replace hS := hS.ext0 hx10
  refine RP_sg 1 [.p (.int .i64 e.check)] [(0, a5), (3, a6), (6, .int .i64 e.check)] trivial ?_
  refine RP_nil <| n_then <| W_seq <| W_region <| RP_sg 2 [.p (.int .i64 e.check), .p (.bool (e.check != 0))] [(0, a5), (3, a6), (6, .int .i64 e.check), (12, .bool (e.check != 0))] trivial ?_
  refine RP_nil <| n_then <| W_cond rfl (fun c12_11 => ?_) (fun c12_11 => ?_)
  ·
   refine W_seq <| W_region <| RP_sg 3 [.p (.int .i64 e.check), .p (.bool false), .p (.int .i64 e.check)] [(4, .bool false), (5, .int .i64 e.check)] trivial ?_
   refine RP_nil <| n_then <| W_ret <| r_then ?_
   have htk : takes t e = false := by unfold takes; have hcz := c12_11; simp at hcz; simp [hcz]
   refine ret_of (P := Tryd.prog) (fn := Tryd.f25) (m := [(4, .bool false), (5, .int .i64 e.check)]) (w := w8) (res2 rfl (rv_tmp rfl) (rv_tmp rfl)) ?_
   exact ⟨by rw [htk]; unfold takeErr; (try rw [c12_11]); rfl, by rw [htk]; exact ⟨_, _, hS⟩, st9.ext⟩
  ·
   refine W_skip <| n_then <| W_seq <| W_seq <| W_region <| RP_sg 3 [.p a5, .p a6, .l 9 a6 (.string e.key)] [(0, a5), (3, a6), (14, a5), (16, .string e.key)] ⟨ld1 st9 nagg_9 0 rfl rfl, trivial⟩ ?_
   refine RP_e rfl (ef_call (k := 64) (args := [a5, .string e.key]) (full_cr e.key hS) body_64 (by kernel_rfl)) ?_
   rintro _ w12 ⟨_, rfl, rfl, hx14⟩
   have st13 := st9.call0 hx14
   replace hS := hS.ext0 hx14
   refine RP_pk [(0, a5), (3, a6), (17, .bool (t.fullB e.key))] ?_
   refine RP_nil <| n_then <| W_cond rfl (fun c17_15 => ?_) (fun c17_15 => ?_)
   ·
    refine W_seq <| W_region <| RP_sg 2 [.p (.bool false), .p (.int .i64 80)] [(4, .bool false), (5, .int .i64 80)] trivial ?_
    refine RP_nil <| n_then <| W_ret <| r_then ?_
    have htk : takes t e = false := by unfold takes; (have hcz : (e.check == 0) = true := by simpa using c12_11); rw [hcz]; (try rw [c12_11]); (try rw [c17_15]); rfl
    refine ret_of (P := Tryd.prog) (fn := Tryd.f25) (m := [(4, .bool false), (5, .int .i64 80)]) (w := w12) (res2 rfl (rv_tmp rfl) (rv_tmp rfl)) ?_
    exact ⟨by rw [htk]; unfold takeErr; (try rw [c12_11]); (try rw [c17_15]); rfl, by rw [htk]; exact ⟨_, _, hS⟩, st13.ext⟩
   ·
    refine W_skip <| n_then <| W_seq <| W_seq <| W_regionS ⟨(fun w' => Blk w' g4 61 [.string e.key, .int .i64 e.c, .int .i64 e.n, .string e.val, .bool e.dead].toArray ∧ Blk w' gs 129 [.int .i64 node, .int .i64 clock, .pointer (some ⟨bm, 0, none⟩), .pointer (some ⟨bt, 0, none⟩)].toArray), (fun _ => True)⟩ (.cons 1 0 (.cons 1 1 (.cons 1 2 (.cons 1 3 (.cons 1 4 (.cons 1 5 (.fork (.cons 2 6 (.cons 1 7 (.cons 1 8 (.cons 1 9 (.cons 2 10 (.cons 2 11 (.cons 1 12 .nil))))))) (.cons 2 10 (.cons 2 6 (.cons 1 7 (.cons 1 8 (.cons 1 9 (.cons 2 11 (.cons 1 12 .nil)))))))))))))) 13 (by kernel_rfl) (by kernel_rfl) ?_
    have st16 := st13.drew
    replace hS := hS.ext0 (Ext.refl [] _).drew
    let a17 : Value := .pointer (some ⟨bt, 0, none⟩)
    refine RS_sg 6 [.p a5, .p a5, .p (.pointer (some ⟨gs, 3, none⟩)), .l 127 (.pointer (some ⟨gs, 3, none⟩)) a17, .p a6, .l 9 a6 (.string e.key)] [(0, a5), (3, a6), (22, a17), (24, .string e.key)] (⟨st16.get 0 rfl, hS.blk⟩) (fun _ hS => ⟨ld1b (hS.2) nagg_127 rfl, ld1b (hS.1) nagg_9 rfl, trivial⟩) ?_
    refine RS_fork ?_ ?_
    ·
     refine RS_e rfl rfl (ef_call (k := 65) (args := [a17, .string e.key]) (get2_cr e.key hS.tr hS.ist) body_65 (by kernel_rfl)) ?_
     rintro _ w18 ⟨_, rfl, rfl, hx20⟩
     have st19 := st16.call0 hx20
     replace hS := hS.ext0 hx20
     refine ⟨⟨st19.get 0 rfl, hS.blk⟩, ?_⟩
     let a21 : Value := .agg #[.string ((entO (t.get e.key)).key), .int .i64 ((entO (t.get e.key)).c), .int .i64 ((entO (t.get e.key)).n), .string ((entO (t.get e.key)).val), .bool ((entO (t.get e.key)).dead)]
     refine RS_sg 3 [.p (.tuple #[a21, .bool ((t.get e.key).isSome)]), .p a21, .p (.bool ((t.get e.key).isSome))] [(0, a5), (3, a6), (26, a21), (27, .bool ((t.get e.key).isSome))] (⟨st19.get 0 rfl, hS.blk⟩) (fun _ hS => trivial) ?_
     refine RS_e rfl rfl (ef_alloc st19 zero_61 rfl) ?_
     rintro _ w22 ⟨g25, rfl, hg25, hg25', st23, hx24⟩
     replace st23 : St [gs, bt, bm] w w22 [(g25, 61, [.string (⟨#[]⟩ : ByteArray), .int .i64 0, .int .i64 0, .string (⟨#[]⟩ : ByteArray), .bool false]), (g4, 61, [.string e.key, .int .i64 e.c, .int .i64 e.n, .string e.val, .bool e.dead])] := st23
     replace hS := hS.ext0 hx24
     refine ⟨⟨st23.get 1 rfl, hS.blk⟩, ?_⟩
     refine RS_e rfl rfl (ef_store st23 rfl rfl rfl size_61 0 rfl rfl rfl rfl (.inr hg25)) ?_
     rintro _ w26 ⟨rfl, st27, hx28⟩
     replace st27 : St [gs, bt, bm] w w26 [(g25, 61, [.string ((entO (t.get e.key)).key), .int .i64 ((entO (t.get e.key)).c), .int .i64 ((entO (t.get e.key)).n), .string ((entO (t.get e.key)).val), .bool ((entO (t.get e.key)).dead)]), (g4, 61, [.string e.key, .int .i64 e.c, .int .i64 e.n, .string e.val, .bool e.dead])] := st27
     replace hS := hS.ext1 hx28 (st23.get 0 rfl) (by decide) (by decide) (by decide) (by decide)
     refine ⟨⟨st27.get 1 rfl, hS.blk⟩, ?_⟩
     let a29 : Value := .pointer (some ⟨g25, 0, none⟩)
     refine RS_sg 1 [.p (.bool ((t.get e.key).isSome))] [(0, a5), (3, a6), (7, a29), (8, .bool ((t.get e.key).isSome))] (⟨st27.get 1 rfl, hS.blk⟩) (fun _ hS => trivial) ?_
     refine RS_nil <| n_then <| W_seq <| W_region <| RP_sg 2 [.p (.bool ((t.get e.key).isSome)), .p (.bool ((t.get e.key).isSome))] [(0, a5), (3, a6), (7, a29), (29, .bool ((t.get e.key).isSome))] trivial ?_
     rcases Bool.eq_false_or_eq_true ((t.get e.key).isSome) with c29_30 | c29_30
     ·
      refine RP_at (m' := [(0, a5), (3, a6), (7, a29), (29, .bool true)]) (by rw [c29_30]) ?_
      refine RP_sg 2 [.l 61 a6 a7, .l 61 a29 a21] [(0, a5), (3, a6), (29, .bool true), (30, a7), (31, a21)] ⟨ldN st27 agg_61 1 rfl rfl rfl, ldN st27 agg_61 0 rfl rfl rfl, trivial⟩ ?_
      refine RP_ge rfl rfl (ef_call (k := 66) (args := [a7, a21]) (newer_cr e (entO (t.get e.key)) _) body_66 (by kernel_rfl)) ?_
      rintro _ w31 ⟨_, rfl, rfl, hx33⟩
      have st32 := st27.call0 hx33
      replace hS := hS.ext0 hx33
      refine RP_sg 2 [.p (.bool (!(newer e (entO (t.get e.key))))), .p (.bool (!(newer e (entO (t.get e.key)))))] [(0, a5), (3, a6), (34, .bool (!(newer e (entO (t.get e.key)))))] trivial ?_
      refine RP_nil <| n_then <| W_cond rfl (fun c34_34 => ?_) (fun c34_34 => ?_)
      ·
       refine W_seq <| W_region <| RP_sg 2 [.p (.bool false), .p (.int .i64 0)] [(4, .bool false), (5, .int .i64 0)] trivial ?_
       refine RP_nil <| n_then <| W_ret <| r_then ?_
       have htk : takes t e = false := by unfold takes; (have hcz : (e.check == 0) = true := by simpa using c12_11); rw [hcz]; (try rw [c12_11]); (try rw [c17_15]); (try rw [c29_30]); (try rw [c34_34]); rfl
       refine ret_of (P := Tryd.prog) (fn := Tryd.f25) (m := [(4, .bool false), (5, .int .i64 0)]) (w := w31) (res2 rfl (rv_tmp rfl) (rv_tmp rfl)) ?_
       exact ⟨by rw [htk]; unfold takeErr; (try rw [c12_11]); (try rw [c17_15]); (try rw [c29_30]); (try rw [c34_34]); rfl, by rw [htk]; exact ⟨_, _, hS⟩, st32.ext⟩
      ·
       refine W_skip <| n_then <| W_seq <| W_region <| RP_sg 2 [.p a5, .l 61 a6 a7] [(35, a5), (36, a7)] ⟨ldN st32 agg_61 1 rfl rfl rfl, trivial⟩ ?_
       have hcz : e.check = 0 := by simpa using c12_11
       refine RP_e rfl (ef_call (k := 67) (args := [a5, a7]) (lay_cr e (hl.ext st32.ext hg0) hS hs (Nat.lt_of_le_of_lt (check_key hcz) (by decide))) body_67 (by kernel_rfl)) ?_
       rintro _ w35 ⟨_, rfl, rfl, ⟨p2, j2, hS2⟩, hx37⟩
       have st36 := st32.call hx37 (st32.apartS hS rfl) (by simp)
       replace hS := hS2
       refine RP_pk [] ?_
       refine RP_nil <| n_then <| W_seq <| W_region <| RP_sg 2 [.p (.bool true), .p (.int .i64 0)] [(4, .bool true), (5, .int .i64 0)] trivial ?_
       refine RP_nil <| n_then <| W_ret ?_
       have htk : takes t e = true := by unfold takes; (have hcz : (e.check == 0) = true := by simpa using c12_11); rw [hcz]; (try rw [c12_11]); (try rw [c17_15]); (try rw [c29_30]); (try rw [c34_34]); rfl
       refine ret_of (P := Tryd.prog) (fn := Tryd.f25) (m := [(4, .bool true), (5, .int .i64 0)]) (w := w35) (res2 rfl (rv_tmp rfl) (rv_tmp rfl)) ?_
       exact ⟨by rw [htk]; unfold takeErr; (try rw [c12_11]); (try rw [c17_15]); (try rw [c29_30]); (try rw [c34_34]); rfl, by rw [htk]; exact ⟨_, _, hS⟩, st36.ext⟩
     ·
      refine RP_at (m' := [(0, a5), (3, a6), (7, a29), (29, .bool false)]) (by rw [c29_30]) ?_
      refine RP_sg 2 [.no, .no] [(0, a5), (3, a6), (29, .bool false), (30, undef), (31, undef)] trivial ?_
      refine RP_no rfl rfl (by decide) ?_
      refine RP_sg 2 [.no, .p (.bool false)] [(0, a5), (3, a6), (34, .bool false)] trivial ?_
      refine RP_nil <| n_then <| W_false rfl ?_
      refine W_skip <| n_then <| W_seq <| W_region <| RP_sg 2 [.p a5, .l 61 a6 a7] [(35, a5), (36, a7)] ⟨ldN st27 agg_61 1 rfl rfl rfl, trivial⟩ ?_
      have hcz : e.check = 0 := by simpa using c12_11
      refine RP_e rfl (ef_call (k := 67) (args := [a5, a7]) (lay_cr e (hl.ext st27.ext hg0) hS hs (Nat.lt_of_le_of_lt (check_key hcz) (by decide))) body_67 (by kernel_rfl)) ?_
      rintro _ w38 ⟨_, rfl, rfl, ⟨p2, j2, hS2⟩, hx40⟩
      have st39 := st27.call hx40 (st27.apartS hS rfl) (by simp)
      replace hS := hS2
      refine RP_pk [] ?_
      refine RP_nil <| n_then <| W_seq <| W_region <| RP_sg 2 [.p (.bool true), .p (.int .i64 0)] [(4, .bool true), (5, .int .i64 0)] trivial ?_
      refine RP_nil <| n_then <| W_ret ?_
      have htk : takes t e = true := by unfold takes; (have hcz : (e.check == 0) = true := by simpa using c12_11); rw [hcz]; (try rw [c12_11]); (try rw [c17_15]); (try rw [c29_30]); rfl
      refine ret_of (P := Tryd.prog) (fn := Tryd.f25) (m := [(4, .bool true), (5, .int .i64 0)]) (w := w38) (res2 rfl (rv_tmp rfl) (rv_tmp rfl)) ?_
      exact ⟨by rw [htk]; unfold takeErr; (try rw [c12_11]); (try rw [c17_15]); (try rw [c29_30]); rfl, by rw [htk]; exact ⟨_, _, hS⟩, st39.ext⟩
    ·
     refine RS_e rfl rfl (ef_alloc st16 zero_61 rfl) ?_
     rintro _ w41 ⟨g44, rfl, hg44, hg44', st42, hx43⟩
     replace st42 : St [gs, bt, bm] w w41 [(g44, 61, [.string (⟨#[]⟩ : ByteArray), .int .i64 0, .int .i64 0, .string (⟨#[]⟩ : ByteArray), .bool false]), (g4, 61, [.string e.key, .int .i64 e.c, .int .i64 e.n, .string e.val, .bool e.dead])] := st42
     replace hS := hS.ext0 hx43
     refine ⟨⟨st42.get 1 rfl, hS.blk⟩, ?_⟩
     refine RS_e rfl rfl (ef_call (k := 65) (args := [a17, .string e.key]) (get2_cr e.key hS.tr hS.ist) body_65 (by kernel_rfl)) ?_
     rintro _ w45 ⟨_, rfl, rfl, hx47⟩
     have st46 := st42.call0 hx47
     replace hS := hS.ext0 hx47
     refine ⟨⟨st46.get 1 rfl, hS.blk⟩, ?_⟩
     let a48 : Value := .pointer (some ⟨g44, 0, none⟩)
     let a49 : Value := .agg #[.string ((entO (t.get e.key)).key), .int .i64 ((entO (t.get e.key)).c), .int .i64 ((entO (t.get e.key)).n), .string ((entO (t.get e.key)).val), .bool ((entO (t.get e.key)).dead)]
     refine RS_sg 3 [.p (.tuple #[a49, .bool ((t.get e.key).isSome)]), .p a49, .p (.bool ((t.get e.key).isSome))] [(0, a5), (3, a6), (7, a48), (26, a49), (27, .bool ((t.get e.key).isSome))] (⟨st46.get 1 rfl, hS.blk⟩) (fun _ hS => trivial) ?_
     refine RS_e rfl rfl (ef_store st46 rfl rfl rfl size_61 0 rfl rfl rfl rfl (.inr hg44)) ?_
     rintro _ w50 ⟨rfl, st51, hx52⟩
     replace st51 : St [gs, bt, bm] w w50 [(g44, 61, [.string ((entO (t.get e.key)).key), .int .i64 ((entO (t.get e.key)).c), .int .i64 ((entO (t.get e.key)).n), .string ((entO (t.get e.key)).val), .bool ((entO (t.get e.key)).dead)]), (g4, 61, [.string e.key, .int .i64 e.c, .int .i64 e.n, .string e.val, .bool e.dead])] := st51
     replace hS := hS.ext1 hx52 (st46.get 0 rfl) (by decide) (by decide) (by decide) (by decide)
     refine ⟨⟨st51.get 1 rfl, hS.blk⟩, ?_⟩
     refine RS_sg 1 [.p (.bool ((t.get e.key).isSome))] [(0, a5), (3, a6), (7, a48), (8, .bool ((t.get e.key).isSome))] (⟨st51.get 1 rfl, hS.blk⟩) (fun _ hS => trivial) ?_
     refine RS_nil <| n_then <| W_seq <| W_region <| RP_sg 2 [.p (.bool ((t.get e.key).isSome)), .p (.bool ((t.get e.key).isSome))] [(0, a5), (3, a6), (7, a48), (29, .bool ((t.get e.key).isSome))] trivial ?_
     rcases Bool.eq_false_or_eq_true ((t.get e.key).isSome) with c29_53 | c29_53
     ·
      refine RP_at (m' := [(0, a5), (3, a6), (7, a48), (29, .bool true)]) (by rw [c29_53]) ?_
      refine RP_sg 2 [.l 61 a6 a7, .l 61 a48 a49] [(0, a5), (3, a6), (29, .bool true), (30, a7), (31, a49)] ⟨ldN st51 agg_61 1 rfl rfl rfl, ldN st51 agg_61 0 rfl rfl rfl, trivial⟩ ?_
      refine RP_ge rfl rfl (ef_call (k := 66) (args := [a7, a49]) (newer_cr e (entO (t.get e.key)) _) body_66 (by kernel_rfl)) ?_
      rintro _ w54 ⟨_, rfl, rfl, hx56⟩
      have st55 := st51.call0 hx56
      replace hS := hS.ext0 hx56
      refine RP_sg 2 [.p (.bool (!(newer e (entO (t.get e.key))))), .p (.bool (!(newer e (entO (t.get e.key)))))] [(0, a5), (3, a6), (34, .bool (!(newer e (entO (t.get e.key)))))] trivial ?_
      refine RP_nil <| n_then <| W_cond rfl (fun c34_57 => ?_) (fun c34_57 => ?_)
      ·
       refine W_seq <| W_region <| RP_sg 2 [.p (.bool false), .p (.int .i64 0)] [(4, .bool false), (5, .int .i64 0)] trivial ?_
       refine RP_nil <| n_then <| W_ret <| r_then ?_
       have htk : takes t e = false := by unfold takes; (have hcz : (e.check == 0) = true := by simpa using c12_11); rw [hcz]; (try rw [c12_11]); (try rw [c17_15]); (try rw [c29_53]); (try rw [c34_57]); rfl
       refine ret_of (P := Tryd.prog) (fn := Tryd.f25) (m := [(4, .bool false), (5, .int .i64 0)]) (w := w54) (res2 rfl (rv_tmp rfl) (rv_tmp rfl)) ?_
       exact ⟨by rw [htk]; unfold takeErr; (try rw [c12_11]); (try rw [c17_15]); (try rw [c29_53]); (try rw [c34_57]); rfl, by rw [htk]; exact ⟨_, _, hS⟩, st55.ext⟩
      ·
       refine W_skip <| n_then <| W_seq <| W_region <| RP_sg 2 [.p a5, .l 61 a6 a7] [(35, a5), (36, a7)] ⟨ldN st55 agg_61 1 rfl rfl rfl, trivial⟩ ?_
       have hcz : e.check = 0 := by simpa using c12_11
       refine RP_e rfl (ef_call (k := 67) (args := [a5, a7]) (lay_cr e (hl.ext st55.ext hg0) hS hs (Nat.lt_of_le_of_lt (check_key hcz) (by decide))) body_67 (by kernel_rfl)) ?_
       rintro _ w58 ⟨_, rfl, rfl, ⟨p2, j2, hS2⟩, hx60⟩
       have st59 := st55.call hx60 (st55.apartS hS rfl) (by simp)
       replace hS := hS2
       refine RP_pk [] ?_
       refine RP_nil <| n_then <| W_seq <| W_region <| RP_sg 2 [.p (.bool true), .p (.int .i64 0)] [(4, .bool true), (5, .int .i64 0)] trivial ?_
       refine RP_nil <| n_then <| W_ret ?_
       have htk : takes t e = true := by unfold takes; (have hcz : (e.check == 0) = true := by simpa using c12_11); rw [hcz]; (try rw [c12_11]); (try rw [c17_15]); (try rw [c29_53]); (try rw [c34_57]); rfl
       refine ret_of (P := Tryd.prog) (fn := Tryd.f25) (m := [(4, .bool true), (5, .int .i64 0)]) (w := w58) (res2 rfl (rv_tmp rfl) (rv_tmp rfl)) ?_
       exact ⟨by rw [htk]; unfold takeErr; (try rw [c12_11]); (try rw [c17_15]); (try rw [c29_53]); (try rw [c34_57]); rfl, by rw [htk]; exact ⟨_, _, hS⟩, st59.ext⟩
     ·
      refine RP_at (m' := [(0, a5), (3, a6), (7, a48), (29, .bool false)]) (by rw [c29_53]) ?_
      refine RP_sg 2 [.no, .no] [(0, a5), (3, a6), (29, .bool false), (30, undef), (31, undef)] trivial ?_
      refine RP_no rfl rfl (by decide) ?_
      refine RP_sg 2 [.no, .p (.bool false)] [(0, a5), (3, a6), (34, .bool false)] trivial ?_
      refine RP_nil <| n_then <| W_false rfl ?_
      refine W_skip <| n_then <| W_seq <| W_region <| RP_sg 2 [.p a5, .l 61 a6 a7] [(35, a5), (36, a7)] ⟨ldN st51 agg_61 1 rfl rfl rfl, trivial⟩ ?_
      have hcz : e.check = 0 := by simpa using c12_11
      refine RP_e rfl (ef_call (k := 67) (args := [a5, a7]) (lay_cr e (hl.ext st51.ext hg0) hS hs (Nat.lt_of_le_of_lt (check_key hcz) (by decide))) body_67 (by kernel_rfl)) ?_
      rintro _ w61 ⟨_, rfl, rfl, ⟨p2, j2, hS2⟩, hx63⟩
      have st62 := st51.call hx63 (st51.apartS hS rfl) (by simp)
      replace hS := hS2
      refine RP_pk [] ?_
      refine RP_nil <| n_then <| W_seq <| W_region <| RP_sg 2 [.p (.bool true), .p (.int .i64 0)] [(4, .bool true), (5, .int .i64 0)] trivial ?_
      refine RP_nil <| n_then <| W_ret ?_
      have htk : takes t e = true := by unfold takes; (have hcz : (e.check == 0) = true := by simpa using c12_11); rw [hcz]; (try rw [c12_11]); (try rw [c17_15]); (try rw [c29_53]); rfl
      refine ret_of (P := Tryd.prog) (fn := Tryd.f25) (m := [(4, .bool true), (5, .int .i64 0)]) (w := w61) (res2 rfl (rv_tmp rfl) (rv_tmp rfl)) ?_
      exact ⟨by rw [htk]; unfold takeErr; (try rw [c12_11]); (try rw [c17_15]); (try rw [c29_53]); rfl, by rw [htk]; exact ⟨_, _, hS⟩, st62.ext⟩
end Go.Proofs.YtcopemgkjbaaeaaDoor
namespace Go.Proofs.YtcopemgkjbaaeaaDoor
set_option linter.all false
open Go.RowKit
theorem Doc.ext0 {w w' : World} {gd : Nat} {node clock : Int} {b : Option Addr} {c : Nat} {L : List Ent} (h : Doc w gd node clock b c L) (hx : Ext [] w w') : Doc w' gd node clock b c L := h.ext hx (by simp) (by simp)
theorem Doc.ext1 {w w' : World} {gd : Nat} {node clock : Int} {b : Option Addr} {c : Nat} {L : List Ent} {g : Nat} {t : TypeId} {cs : Array Value} (h : Doc w gd node clock b c L) (hx : Ext [g] w w') (hb : Blk w g t cs) (h1 : t ≠ 167) (h2 : t ≠ 61) : Doc w' gd node clock b c L :=
  h.ext hx (by simpa using (hb.ne_ h.blk h1).symm) (fun q hq hm => by simp only [List.mem_singleton] at hm; subst hm; exact ownsRow.not_blk h.own hb (fun e => h2 e.symm) hq)
theorem made_cr {w : World} {b : Option Addr} {c : Nat} {L : List Ent} (node : Int) (hl : Lanes w) (hin : InS w b (entCells L)) (h0 : loadErr node 1099511627776 L = 0) :
    CR Tryd.prog 12 [.int .i64 node, .slice b L.length c] w fun v w' => ∃ gs bm bt p j gd b' c', v = .tuple #[.agg #[.pointer (some ⟨gs, 0, none⟩), .pointer (some ⟨gd, 0, none⟩)], .bool true] ∧
      Sto w' gs bm bt p node 1099511627776 j (T.load L) ∧ Doc w' gd node 1099511627776 b' c' L ∧ Ext [] w w' ∧ w.heap.size ≤ gs ∧ w.heap.size ≤ bm ∧ w.heap.size ≤ bt ∧ w.heap.size ≤ gd := by
  have st := St.init w []
  have hne : (loadErr node 1099511627776 L != 0) = false := by rw [h0]; rfl
  have heq : (loadErr node 1099511627776 L == 0) = true := by rw [h0]; rfl
  refine CR_enter Tryd.func12 rfl Tryd.ntmps12 rfl ?_
  refine W_seq <| W_region <| RP_e rfl (ef_alloc st zero_39 rfl) ?_
  rintro _ w1 ⟨g4, rfl, hg4, hg4', st2, hx3⟩
  replace st2 : St [] w w1 [(g4, 39, [.pointer none, .pointer none])] := st2
  let a5 : Value := .slice b L.length c
  let a6 : Value := .pointer (some ⟨g4, 0, none⟩)
  refine RP_sg 1 [.p (.bool false)] [(0, .int .i64 node), (1, a5), (4, a6)] trivial ?_
  refine RP_nil <| n_then <| W_seq <| W_region <| RP_sg 2 [.p (.int .i64 node), .p a5] [(0, .int .i64 node), (1, a5), (4, a6), (11, .int .i64 node), (12, a5)] trivial ?_
  refine RP_e rfl (ef_call (k := 41) (args := [.int .i64 node, .int .i64 1099511627776, a5]) (refLoad_cr node 1099511627776 (hin.ext0 st2.ext)) body_41 (by kernel_rfl)) ?_
  rintro _ w7 ⟨_, rfl, u, rfl, hx9, -, hd0⟩
  have st8 := st2.call0 hx9
  obtain ⟨gd, b2, c2, rfl, hD, hgd, -⟩ := hd0 h0
  replace hgd : w.heap.size ≤ gd := Nat.le_trans st2.ext.size hgd
  let a10 : Value := .pointer (some ⟨gd, 0, none⟩)
  refine RP_sg 5 [.p (.tuple #[a10, .int .i64 (loadErr node 1099511627776 L)]), .p a10, .p (.int .i64 (loadErr node 1099511627776 L)), .p a10, .p (.int .i64 (loadErr node 1099511627776 L))] [(0, .int .i64 node), (1, a5), (4, a6), (6, a10), (7, .int .i64 (loadErr node 1099511627776 L))] trivial ?_
  refine RP_nil <| n_then <| W_seq <| W_seq <| W_region <| RP_sg 2 [.p (.int .i64 (loadErr node 1099511627776 L)), .p (.bool ((loadErr node 1099511627776 L) != 0))] [(0, .int .i64 node), (1, a5), (4, a6), (6, a10), (17, .bool ((loadErr node 1099511627776 L) != 0))] trivial ?_
  refine RP_nil <| n_then <| W_false' rfl hne ?_
  refine W_skip <| n_then <| W_seq <| W_region <| RP_sg 2 [.p (.int .i64 node), .p a5] [(4, a6), (6, a10), (20, .int .i64 node), (21, a5)] trivial ?_
  refine RP_e rfl (ef_call (k := 42) (args := [.int .i64 node, .int .i64 1099511627776, a5]) (load_cr node 1099511627776 (hl.ext st8.ext List.not_mem_nil) (hin.ext0 st8.ext)) body_42 (by kernel_rfl)) ?_
  rintro _ w11 ⟨_, rfl, u2, rfl, hx13, -, hs0⟩
  have st12 := st8.call0 hx13
  replace hD := hD.ext0 hx13
  obtain ⟨gs, bm, bt, p, j, rfl, hS, hgs, hbm, hbt⟩ := hs0 h0
  replace hgs : w.heap.size ≤ gs := Nat.le_trans st8.ext.size hgs
  replace hbm : w.heap.size ≤ bm := Nat.le_trans st8.ext.size hbm
  replace hbt : w.heap.size ≤ bt := Nat.le_trans st8.ext.size hbt
  let a14 : Value := .pointer (some ⟨gs, 0, none⟩)
  refine RP_sg 5 [.p (.tuple #[a14, .int .i64 (loadErr node 1099511627776 L)]), .p a14, .p (.int .i64 (loadErr node 1099511627776 L)), .p a14, .p (.int .i64 (loadErr node 1099511627776 L))] [(4, a6), (6, a10), (8, a14), (9, .int .i64 (loadErr node 1099511627776 L))] trivial ?_
  refine RP_nil <| n_then <| W_seq <| W_region ?_
  let a15 : Value := .agg #[a14, a10]
  refine RP_sg 6 [.p a14, .p a10, .p a15, .p (.int .i64 (loadErr node 1099511627776 L)), .p (.bool ((loadErr node 1099511627776 L) == 0)), .p (.bool ((loadErr node 1099511627776 L) == 0))] [(4, a6), (8, a14), (27, a15), (30, .bool ((loadErr node 1099511627776 L) == 0))] trivial ?_
  refine RP_at (m' := [(4, a6), (8, a14), (27, a15), (30, .bool true)]) (by rw [heq]) ?_
  refine RP_sg 3 [.p a14, .p (.bool true), .p (.bool true)] [(4, a6), (27, a15), (33, .bool true)] trivial ?_
  refine RP_e rfl (ef_store st12 rfl rfl rfl size_39 0 rfl rfl rfl rfl (.inr hg4)) ?_
  rintro _ w16 ⟨rfl, st17, hx18⟩
  replace st17 : St [] w w16 [(g4, 39, [.pointer (some ⟨gs, 0, none⟩), .pointer (some ⟨gd, 0, none⟩)])] := st17
  replace hD := hD.ext1 hx18 (st12.get 0 rfl) (by decide) (by decide)
  replace hS := hS.ext1 hx18 (st12.get 0 rfl) (by decide) (by decide) (by decide) (by decide)
  refine RP_sg 1 [.p (.bool true)] [(4, a6), (5, .bool true)] trivial ?_
  refine RP_nil <| n_then <| W_ret <| ret_of (P := Tryd.prog) (fn := Tryd.f12) (m := [(4, .pointer (some ⟨g4, 0, none⟩)), (5, .bool true)]) (w := w16) (res2 rfl (rv_cell rfl (by simpa [Instr.loadAt, Instr.sureAddr] using (ldN st17 agg_39 0 rfl rfl rfl))) (rv_tmp rfl)) ?_
  exact ⟨gs, bm, bt, p, j, gd, b2, c2, rfl, hS, hD, st17.ext, hgs, hbm, hbt, hgd⟩
end Go.Proofs.YtcopemgkjbaaeaaDoor
namespace Go.Proofs.YtcopemgkjbaaeaaDoor
set_option linter.all false
open Go.RowKit Go.ChangeShapes Go.WideShapes Go.Deep
theorem uStr : (Tryd.prog).underlying 9 = some .string := by kernel_rfl
theorem uBool : (Tryd.prog).underlying 4 = some .bool := by kernel_rfl
theorem uInt : (Tryd.prog).underlying 3 = some (.int .i64) := by kernel_rfl
section
variable {H : Type} {enc : TypeId × Value → H} {w : World} {base : Nat} {spare : Nat → Bool} {held : Bool}
theorem one_of_len {cs : List Value} {n : Nat} {v : Value} (h : (cs.drop n).take 1 = [v]) : cs[n]? = some v := by
  have := congrArg (fun l => l[0]?) h
  simpa [List.getElem?_take, List.getElem?_drop] using this
theorem cells5 {cs : List Value} {a b c d e : Value} (hl : cs.length = 5) (h0 : cs[0]? = some a) (h1 : cs[1]? = some b) (h2 : cs[2]? = some c) (h3 : cs[3]? = some d) (h4 : cs[4]? = some e) : cs = [a, b, c, d, e] := by
  match cs, hl with
  | [x0, x1, x2, x3, x4], _ => simp at h0 h1 h2 h3 h4; simp [h0, h1, h2, h3, h4]
theorem cells3 {cs : List Value} {a b c : Value} (hl : cs.length = 3) (h0 : cs[0]? = some a) (h1 : cs[1]? = some b) (h2 : cs[2]? = some c) : cs = [a, b, c] := by
  match cs, hl with
  | [x0, x1, x2], _ => simp at h0 h1 h2; simp [h0, h1, h2]
theorem cells2 {cs : List Value} {a b : Value} (hl : cs.length = 2) (h0 : cs[0]? = some a) (h1 : cs[1]? = some b) : cs = [a, b] := by
  match cs, hl with
  | [x0, x1], _ => simp at h0 h1; simp [h0, h1]
theorem open_ver {fuel : Nat} {cs : List Value} {x : DataW H × List MemPlace} (h : DataW.trod enc Tryd.prog w base spare held fuel 59 cs = some x) : ∃ c n, cs = [.int .i64 c, .int .i64 n] := by
  have hu : (Tryd.prog).underlying 59 = some (.struct #[⟨"Counter", 3, 0, false, "", "", 0⟩, ⟨"Node", 3, 1, false, "", "", 8⟩]) := by kernel_rfl
  have hc : (Tryd.prog).cellsOf 59 = 2 := by kernel_rfl
  have hi : (Tryd.prog).cellsOf 3 = 1 := by kernel_rfl
  obtain ⟨y0, y1, n, _, hl, h0, h1⟩ := trod_struct2 hu h
  rw [hi] at h0 h1
  obtain ⟨c, e0, _⟩ := DataW.trod_int uInt h0
  obtain ⟨d, e1, _⟩ := DataW.trod_int uInt h1
  exact ⟨c, d, cells2 (by rw [hl, hc]) (one_of_len e0) (one_of_len e1)⟩
theorem open_ent {fuel : Nat} {cs : List Value} {x : DataW H × List MemPlace} (h : DataW.trod enc Tryd.prog w base spare held fuel 61 cs = some x) : ∃ e : Ent, cs = e.cells := by
  have hu : (Tryd.prog).underlying 61 = some (.struct #[⟨"Key", 9, 0, false, "", "", 0⟩, ⟨"Version", 59, 1, false, "", "", 16⟩, ⟨"Value", 9, 3, false, "", "", 32⟩, ⟨"Dead", 4, 4, false, "", "", 48⟩]) := by kernel_rfl
  have hc : (Tryd.prog).cellsOf 61 = 5 := by kernel_rfl
  have hs : (Tryd.prog).cellsOf 9 = 1 := by kernel_rfl
  have hb : (Tryd.prog).cellsOf 4 = 1 := by kernel_rfl
  have hv : (Tryd.prog).cellsOf 59 = 2 := by kernel_rfl
  obtain ⟨y0, y1, y2, y3, n, _, hl, h0, h1, h2, h3⟩ := Go.Joins.trod_struct4 hu h
  rw [hs] at h0 h2
  rw [hb] at h3
  rw [hv] at h1
  obtain ⟨k, e0, _⟩ := DataW.trod_string uStr h0
  obtain ⟨c, d, e1⟩ := open_ver h1
  obtain ⟨v, e2, _⟩ := DataW.trod_string uStr h2
  obtain ⟨b, e3, _⟩ := DataW.trod_bool uBool h3
  have e10 : cs[1]? = some (.int .i64 c) := by
    have := congrArg (fun l => l[0]?) e1
    simpa [List.getElem?_take, List.getElem?_drop] using this
  have e11 : cs[2]? = some (.int .i64 d) := by
    have := congrArg (fun l => l[1]?) e1
    simpa [List.getElem?_take, List.getElem?_drop] using this
  exact ⟨⟨k, c, d, v, b⟩, cells5 (by rw [hl, hc]) (one_of_len e0) e10 e11 (one_of_len e2) (one_of_len e3)⟩
theorem open_rng {fuel : Nat} {cs : List Value} {x : DataW H × List MemPlace} (h : DataW.trod enc Tryd.prog w base spare held fuel 24 cs = some x) : ∃ r : Rng, cs = [.string r.lo, .string r.hi, .bool r.op] := by
  have hu : (Tryd.prog).underlying 24 = some (.struct #[⟨"Lo", 9, 0, false, "", "", 0⟩, ⟨"Hi", 9, 1, false, "", "", 16⟩, ⟨"Open", 4, 2, false, "", "", 32⟩]) := by kernel_rfl
  have hc : (Tryd.prog).cellsOf 24 = 3 := by kernel_rfl
  have hs : (Tryd.prog).cellsOf 9 = 1 := by kernel_rfl
  have hb : (Tryd.prog).cellsOf 4 = 1 := by kernel_rfl
  obtain ⟨y0, y1, y2, n, _, hl, h0, h1, h2⟩ := trod_struct3 hu h
  rw [hs] at h0 h1
  rw [hb] at h2
  obtain ⟨k, e0, _⟩ := DataW.trod_string uStr h0
  obtain ⟨v, e1, _⟩ := DataW.trod_string uStr h1
  obtain ⟨b, e2, _⟩ := DataW.trod_bool uBool h2
  exact ⟨⟨k, v, b⟩, cells3 (by rw [hl, hc]) (one_of_len e0) (one_of_len e1) (one_of_len e2)⟩
theorem open_ents {fuel : Nat} {cs : List Value} {x : DataW H × List MemPlace} (h : DataW.trod enc Tryd.prog w base spare held fuel 22 cs = some x) (hlt : ∀ y ∈ x.2, y.block < w.heap.size) :
    ∃ (b : Option Addr) (c : Nat) (L : List Ent), cs = [.slice b L.length c] ∧ InS w b (entCells L) ∧ L.length ≤ maxLen := by
  have hu : (Tryd.prog).underlying 22 = some (.slice 61) := by kernel_rfl
  have hc : (Tryd.prog).cellsOf 61 = 5 := by kernel_rfl
  rcases open_slice hu h with ⟨rfl, _⟩ | ⟨a, len, cap, m, n, D, Pl, rfl, _, hlc, hcm, hm, rfl, hx⟩
  · exact ⟨none, 0, [], rfl, .inl rfl, Nat.zero_le _⟩
  · rw [hc] at hx
    have hlm : len ≤ m := by rw [hm]; split <;> omega
    have key : ∀ k, k ≤ len → ∃ L : List Ent, L.length = k ∧ ∀ (j : Nat) (u : Value), (entCells L)[j]? = some u → w.cell? (a.add j) = some u := by
      intro k
      induction k with
      | zero => exact fun _ => ⟨[], rfl, fun j u hu => by simp [entCells] at hu⟩
      | succ k ih =>
        intro hk
        obtain ⟨L, hL, hL2⟩ := ih (by omega)
        obtain ⟨cs', h1, h2⟩ := hx k (by omega)
        obtain ⟨e, rfl⟩ := open_ent h2
        refine ⟨L ++ [e], by simp [hL], fun j u hu => ?_⟩
        have hcat : entCells (L ++ [e]) = entCells L ++ e.cells := by simp [entCells]
        rw [hcat] at hu
        rcases Nat.lt_or_ge j (entCells L).length with hj | hj
        · rw [List.getElem?_append_left hj] at hu; exact hL2 j u hu
        · rw [List.getElem?_append_right hj] at hu
          have hlen := entCells_len L
          obtain ⟨_, _, h3⟩ := World.cells?_some h1
          have hj5 : j - (entCells L).length < 5 := by
            have := (List.getElem?_eq_some_iff.1 hu).1
            simpa [Ent.cells] using this
          have := h3 (j - (entCells L).length) hj5
          rw [hu] at this
          rw [show a.add j = (a.add (k * 5)).add (j - (entCells L).length) from by
            rw [hlen, hL]
            rw [hlen, hL] at hj
            unfold Addr.add
            split <;> split <;> split <;> simp_all <;> omega]
          exact this
    obtain ⟨L, hL, hL2⟩ := key len (Nat.le_refl _)
    refine ⟨some a, cap, L, by rw [hL], ?_, by omega⟩
    rcases Nat.eq_zero_or_pos len with h0 | h0
    · exact .inl (by have : L = [] := List.eq_nil_of_length_eq_zero (by omega); rw [this]; rfl)
    · obtain ⟨u, hu⟩ : ∃ u, (entCells L)[0]? = some u := ⟨(entCells L)[0]'(by rw [entCells_len]; omega), by simp⟩
      have h00 := hL2 0 u hu
      have hsp : a.spot = none := by
        cases hs : a.spot with
        | none => rfl
        | some q =>
          exfalso
          have : (a.add 0) = a := by unfold Addr.add; simp
          rw [this] at h00
          unfold World.cell? at h00
          split at h00
          · simp [hs] at h00
          · cases h00
      obtain ⟨g, o, s⟩ := a
      simp only at hsp
      subst hsp
      refine .inr ⟨rfl, World.block_lt_of_cell? _ _ h00, fun j v hv => ?_⟩
      have e : ((⟨g, o, none⟩ : Addr).add j) = ⟨g, o + j, none⟩ := by unfold Addr.add; split <;> simp_all
      have := hL2 j v hv
      rw [e] at this
      exact this
end
end Go.Proofs.YtcopemgkjbaaeaaDoor
namespace Go.Proofs.YtcopemgkjbaaeaaDoor
set_option linter.all false
open Go.RowKit Go.ChangeShapes Go.WideShapes Go.Deep
theorem uU64 : (Tryd.prog).underlying 28 = some (.int .u64) := by kernel_rfl
theorem open_lane {w : World} {base : Nat} {spare : Nat → Bool} {held : Bool} {H : Type} {enc : TypeId × Value → H} {fuel : Nat} {cs : List Value} {x : DataW H × List MemPlace} (h : DataW.trod enc Tryd.prog w base spare held fuel 215 cs = some x) :
    ∃ a b c, cs = [.int .u64 a, .int .u64 b, .int .i64 c] ∧ x.1 = .agg [.lit (.int .u64 a), .lit (.int .u64 b), .lit (.int .i64 c)] := by
  have hu : (Tryd.prog).underlying 215 = some (.struct #[⟨"begin", 28, 0, false, "", "tideline/mix", 0⟩, ⟨"factor", 28, 1, false, "", "tideline/mix", 8⟩, ⟨"shift", 3, 2, false, "", "tideline/mix", 16⟩]) := by kernel_rfl
  have hc : (Tryd.prog).cellsOf 215 = 3 := by kernel_rfl
  have hs : (Tryd.prog).cellsOf 28 = 1 := by kernel_rfl
  have hi : (Tryd.prog).cellsOf 3 = 1 := by kernel_rfl
  obtain ⟨y0, y1, y2, n, rfl, hl, h0, h1, h2⟩ := trod_struct3 hu h
  rw [hs] at h0 h1
  rw [hi] at h2
  obtain ⟨a, e0, rfl, _⟩ := DataW.trod_int uU64 h0
  obtain ⟨b, e1, rfl, _⟩ := DataW.trod_int uU64 h1
  obtain ⟨c, e2, rfl, _⟩ := DataW.trod_int uInt h2
  exact ⟨a, b, c, cells3 (by rw [hl, hc]) (one_of_len e0) (one_of_len e1) (one_of_len e2), rfl⟩
theorem lanes_of_laid {w : World} {l : List (String × DataW Unit)} (h : laidMet Tryd.prog l w) (hm : ("tideline/mix.lanes", Rows.laid_tideline_mix_lanes) ∈ l) : Lanes w := by
  obtain ⟨g, t, cs, fuel, p, h1, h2, h3, h4⟩ := Go.Lib.laidMet.reads h hm
  obtain rfl := Option.some.inj ((show (Tryd.prog).globalNamed "tideline/mix.lanes" = some 0 by kernel_rfl).symm.trans h1)
  obtain rfl := Option.some.inj ((show ((Tryd.prog).globals[0]?).map (·.type) = some 216 by kernel_rfl).symm.trans h2)
  have hu : (Tryd.prog).underlying 216 = some (.array 2 215) := by kernel_rfl
  have hc : (Tryd.prog).cellsOf 216 = 6 := by kernel_rfl
  have hl3 : (Tryd.prog).cellsOf 215 = 3 := by kernel_rfl
  obtain ⟨xs, m, _, hx, hl, hxl, hall⟩ := DataW.trod_array hu h4
  match xs, hxl with
  | [x0, x1], _ =>
    have a0 := hall 0 (by decide)
    have a1 := hall 1 (by decide)
    rw [hl3] at a0 a1
    obtain ⟨a, b, c, e0, f0⟩ := open_lane a0
    obtain ⟨a', b', c', e1, f1⟩ := open_lane a1
    have hd := congrArg Prod.fst hx
    simp only [List.map_cons, List.map_nil, f0, f1, Rows.laid_tideline_mix_lanes] at hd
    injection hd with hd
    simp only [List.cons.injEq, DataW.agg.injEq, DataW.lit.injEq, Lit.int.injEq, true_and, and_true] at hd
    obtain ⟨⟨q1, q2, q3⟩, q4, q5, q6⟩ := hd
    have hlen : cs.toList.length = 6 := by rw [hl, hc]
    have hcs : cs.toList = lanesV := by
      have hsplit : cs.toList = (cs.toList.drop (0 * 3)).take 3 ++ (cs.toList.drop (1 * 3)).take 3 := by
        have h5 : (cs.toList.drop (1 * 3)).take 3 = cs.toList.drop 3 := List.take_of_length_le (by simp only [List.length_drop]; omega)
        rw [h5]; exact (List.take_append_drop 3 cs.toList).symm
      rw [hsplit, e0, e1, ← q1, ← q2, ← q3, ← q4, ← q5, ← q6]; rfl
    unfold World.var? at h3
    rw [h1] at h3
    simp only [Option.bind_some] at h3
    split at h3
    · rename_i cs2 t fr hh
      injection h3 with h3
      subst h3
      exact ⟨t, fr, by rw [hh, ← hcs]⟩
    · cases h3
end Go.Proofs.YtcopemgkjbaaeaaDoor
namespace Go.Proofs.YtcopemgkjbaaeaaDoor
set_option linter.all false
open Go Go.ChangeShapes Go.WideShapes Go.ChangeAt Go.RowKit
theorem agg_of {v a b c : Value} (h : v.cells.toList = [a, b, c]) : v = .agg #[a, b, c] := by
  cases v with
  | agg cs =>
    have h' : cs.toList = [a, b, c] := h
    rw [← Array.toArray_toList (xs := cs), h']
  | _ => exact absurd (congrArg List.length h) (by simp [Value.cells])
theorem own_ : ownKnob (Tryd.prog).godebug = none := by kernel_rfl
theorem laidOut_ : laidOutB Tryd.prog = true := by kernel_rfl
noncomputable def lanesWorld (os : Os) : World :=
  let w0 := World.holding Tryd.prog os ⟨#[], #[], []⟩
  { w0 with heap := w0.heap.modify 0 fun
      | .cells _ t frozen => .cells lanesV.toArray t frozen
      | o => o }
end Go.Proofs.YtcopemgkjbaaeaaDoor
namespace Go.Proofs.YtcopemgkjbaaeaaDoor
set_option linter.all false
open Go.RowKit
def okM (p : Option Ent) (e : Ent) : Int := cond (e.check != 0) e.check (cond (match p with | some q => !(Op.bytesLess q.key.toList e.key.toList) | none => false) 90 0)
def chkM : Option Ent → List Ent → Int
  | _, [] => 0
  | p, e :: l => cond (okM p e != 0) (okM p e) (chkM (some e) l)
theorem chkM_drop (l : List Ent) {i : Nat} {e : Ent} (he : l[i]? = some e) : chkM (prevE l i) (l.drop i) = cond (okM (prevE l i) e != 0) (okM (prevE l i) e) (chkM (prevE l (i + 1)) (l.drop (i + 1))) := by
  obtain ⟨h1, h2⟩ := List.getElem?_eq_some_iff.1 he
  rw [List.drop_eq_getElem_cons h1, h2, chkM]
  congr 2
  simp [prevE, he]
theorem mergeCheck_cr {w : World} {b : Option Addr} {c : Nat} (L : List Ent) (hin : InS w b (entCells L)) (hL : L.length < 1000000) :
    CR Tryd.prog 57 [.slice b L.length c] w fun v w' => v = .int .i64 (chkM none L) ∧ Ext [] w w' := by
  have st := St.init w []
  refine CR_enter Tryd.func57 rfl Tryd.ntmps57 rfl ?_
  refine W_seq <| W_region ?_
  let a1 : Value := .slice b L.length c
  refine RP_sg 1 [.p (.int .i64 0)] [(0, a1)] trivial ?_
  refine RP_nil <| n_then <| W_seq <| W_seq <| W_region <| RP_sg 3 [.p a1, .p (.int .i64 ((L.length : Nat) : Int)), .p (.int .i64 0)] [(0, a1), (6, a1), (7, .int .i64 ((L.length : Nat) : Int)), (8, .int .i64 0)] trivial ?_
  refine RP_nil <| n_then <| W_block <| W_loop (fun k_ m_ w_ => ∃ (i : Nat), L.length - i = k_ ∧ m_ = [(0, a1), (6, a1), (7, .int .i64 ((L.length : Nat) : Int)), (8, .int .i64 ((i : Nat) : Int))] ∧ St [] w w_ [] ∧ i ≤ L.length ∧ chkM (prevE L i) (L.drop i) = chkM none L) ⟨0, rfl, rfl, st, Nat.zero_le _, rfl⟩ ?_
  rintro _ _ w3 ⟨i, rfl, rfl, st2, hil, hle⟩
  refine W_seq <| W_region <| RP_sg 1 [.p (.bool (decide (((i : Nat) : Int) < ((L.length : Nat) : Int))))] [(0, a1), (6, a1), (7, .int .i64 ((L.length : Nat) : Int)), (8, .int .i64 ((i : Nat) : Int)), (9, .bool (decide (((i : Nat) : Int) < ((L.length : Nat) : Int))))] trivial ?_
  refine RP_nil <| n_then <| W_seq <| W_cond rfl (fun c9_4 => ?_) (fun c9_4 => ?_)
  ·
   have c9_4p := of_decide_eq_true c9_4
   refine W_skip <| n_then <| W_seq <| W_block <| W_seq <| W_region <| RP_sg 1 [.p (.int .i64 ((i : Nat) : Int))] [(0, a1), (6, a1), (7, .int .i64 ((L.length : Nat) : Int)), (8, .int .i64 ((i : Nat) : Int)), (10, .int .i64 ((i : Nat) : Int))] trivial ?_
   have hlt : i < L.length := by omega
   obtain ⟨e, he⟩ : ∃ e, L[i]? = some e := ⟨L[i], by simp [hlt]⟩
   have hbs := hin.some_ (by rw [entCells_len]; omega)
   refine RP_q rfl (v := .pointer (some ⟨(sp b), so b + i * 5, none⟩)) (ev_indexI idxEnt rfl rfl hbs hlt) ?_
   let a5 : Value := .agg #[.string e.key, .int .i64 e.c, .int .i64 e.n, .string e.val, .bool e.dead]
   refine RP_sg 1 [.l 61 (.pointer (some ⟨(sp b), so b + i * 5, none⟩)) a5] [(0, a1), (6, a1), (7, .int .i64 ((L.length : Nat) : Int)), (8, .int .i64 ((i : Nat) : Int)), (10, .int .i64 ((i : Nat) : Int)), (12, a5)] ⟨InS.loadN agg_61 (hin.ext0 st2.ext) (entCells_at he) rfl (by decide), trivial⟩ ?_
   refine RP_e rfl (ef_alloc st2 zero_61 rfl) ?_
   rintro _ w6 ⟨g9, rfl, hg9, hg9', st7, hx8⟩
   replace st7 : St [] w w6 [(g9, 61, [.string (⟨#[]⟩ : ByteArray), .int .i64 0, .int .i64 0, .string (⟨#[]⟩ : ByteArray), .bool false])] := st7
   let a10 : Value := .pointer (some ⟨g9, 0, none⟩)
   refine RP_sg 1 [.p (.int .i64 ((i : Nat) : Int))] [(0, a1), (3, .int .i64 ((i : Nat) : Int)), (4, a10), (6, a1), (7, .int .i64 ((L.length : Nat) : Int)), (8, .int .i64 ((i : Nat) : Int)), (12, a5)] trivial ?_
   refine RP_e rfl (ef_store st7 rfl rfl rfl size_61 0 rfl rfl rfl rfl (.inr hg9)) ?_
   rintro _ w11 ⟨rfl, st12, hx13⟩
   replace st12 : St [] w w11 [(g9, 61, [.string e.key, .int .i64 e.c, .int .i64 e.n, .string e.val, .bool e.dead])] := st12
   refine RP_pk [(0, a1), (3, .int .i64 ((i : Nat) : Int)), (4, a10), (6, a1), (7, .int .i64 ((L.length : Nat) : Int)), (8, .int .i64 ((i : Nat) : Int))] ?_
   refine RP_nil <| n_then <| W_seq <| W_seq <| W_region <| RP_sg 1 [.l 61 a10 a5] [(0, a1), (3, .int .i64 ((i : Nat) : Int)), (4, a10), (6, a1), (7, .int .i64 ((L.length : Nat) : Int)), (8, .int .i64 ((i : Nat) : Int)), (13, a5)] ⟨ldN st12 agg_61 0 rfl rfl rfl, trivial⟩ ?_
   refine RP_e rfl (ef_call (k := 63) (args := [a5]) (itemCheck_cr e _) body_63 (by kernel_rfl)) ?_
   rintro _ w14 ⟨_, rfl, rfl, hx16⟩
   have st15 := st12.call0 hx16
   refine RP_sg 1 [.p (.int .i64 e.check)] [(0, a1), (3, .int .i64 ((i : Nat) : Int)), (4, a10), (5, .int .i64 e.check), (6, a1), (7, .int .i64 ((L.length : Nat) : Int)), (8, .int .i64 ((i : Nat) : Int))] trivial ?_
   refine RP_nil <| n_then <| W_seq <| W_region <| RP_sg 2 [.p (.int .i64 e.check), .p (.bool (e.check != 0))] [(0, a1), (3, .int .i64 ((i : Nat) : Int)), (4, a10), (5, .int .i64 e.check), (6, a1), (7, .int .i64 ((L.length : Nat) : Int)), (8, .int .i64 ((i : Nat) : Int)), (16, .bool (e.check != 0))] trivial ?_
   refine RP_nil <| n_then <| W_cond rfl (fun c16_17 => ?_) (fun c16_17 => ?_)
   ·
    refine W_seq <| W_region <| RP_sg 2 [.p (.int .i64 e.check), .p (.int .i64 e.check)] [(2, .int .i64 e.check)] trivial ?_
    refine RP_nil <| n_then <| W_ret <| r_then <| r_block <| r_then <| r_loop <| r_block <| r_then ?_
    have hok : okM (prevE L i) e = e.check := by unfold okM; rw [c16_17]; rfl
    have hnz : (e.check : Int) ≠ 0 := by simpa using c16_17
    have hz : chkM none L = e.check := by rw [← hle, chkM_drop L he, hok, show ((e.check : Int) != 0) = true from by simpa using hnz]; rfl
    refine ret_of (P := Tryd.prog) (fn := Tryd.f57) (m := [(2, .int .i64 e.check)]) (w := w14) (res1 rfl (rv_tmp rfl)) ?_
    exact ⟨by rw [hz], st15.ext⟩
   ·
    refine W_skip <| n_then <| W_seq <| W_regionS ⟨(fun w' => Blk w' g9 61 [.string e.key, .int .i64 e.c, .int .i64 e.n, .string e.val, .bool e.dead].toArray ∧ InS w' b (entCells L)), (fun _ => True)⟩ (.cons 1 0 (.cons 1 1 (.cons 1 2 (.cons 1 3 (.cons 1 4 (.cons 1 5 (.cons 1 6 (.cons 1 7 (.cons 1 8 (.cons 1 9 (.cons 1 10 (.cons 1 11 (.cons 1 12 .nil))))))))))))) 13 (by kernel_rfl) (by kernel_rfl) ?_
    have st18 := st15.drew
    refine RS_sg 3 [.p (.int .i64 ((i : Nat) : Int)), .p (.bool (decide (((i : Nat) : Int) > 0))), .p (.bool (decide (((i : Nat) : Int) > 0)))] [(0, a1), (3, .int .i64 ((i : Nat) : Int)), (4, a10), (6, a1), (7, .int .i64 ((L.length : Nat) : Int)), (8, .int .i64 ((i : Nat) : Int)), (20, .bool (decide (((i : Nat) : Int) > 0)))] (⟨st18.get 0 rfl, hin.ext0 st18.ext⟩) (fun _ hS => trivial) ?_
    rcases Bool.eq_false_or_eq_true (decide (((i : Nat) : Int) > 0)) with c20_19 | c20_19
    ·
     have c20_19p := of_decide_eq_true c20_19
     refine RS_at (m' := [(0, a1), (3, .int .i64 ((i : Nat) : Int)), (4, a10), (6, a1), (7, .int .i64 ((L.length : Nat) : Int)), (8, .int .i64 ((i : Nat) : Int)), (20, .bool true)]) (by rw [c20_19]) ?_
     refine RS_sg 3 [.p a1, .p (.int .i64 ((i : Nat) : Int)), .p (.int .i64 (IntKind.i64.wrap (((i : Nat) : Int) - 1)))] [(0, a1), (4, a10), (6, a1), (7, .int .i64 ((L.length : Nat) : Int)), (8, .int .i64 ((i : Nat) : Int)), (20, .bool true), (21, a1), (23, .int .i64 (IntKind.i64.wrap (((i : Nat) : Int) - 1)))] (⟨st18.get 0 rfl, hin.ext0 st18.ext⟩) (fun _ hS => trivial) ?_
     refine RS_at (m' := [(0, a1), (4, a10), (6, a1), (7, .int .i64 ((L.length : Nat) : Int)), (8, .int .i64 ((i : Nat) : Int)), (20, .bool true), (21, a1), (23, .int .i64 (((i - 1) : Nat) : Int))]) (by rw [show IntKind.i64.wrap (((i : Nat) : Int) - 1) = ((i - 1 : Nat) : Int) by rw [wrap_in (by omega) (by omega)]; omega]) ?_
     obtain ⟨e0, he0⟩ : ∃ e, L[i - 1]? = some e := ⟨L[i - 1], by simp⟩
     refine RS_gq rfl rfl rfl (⟨st18.get 0 rfl, hin.ext0 st18.ext⟩) (v := .pointer (some ⟨(sp b), so b + (i - 1) * 5, none⟩)) (fun _ _ => ev_indexI idxEnt rfl rfl hbs (by omega)) ?_
     refine RS_sg 6 [.p (.pointer (some ⟨(sp b), so b + (i - 1) * 5, none⟩)), .l 9 (.pointer (some ⟨(sp b), so b + (i - 1) * 5, none⟩)) (.string e0.key), .p a10, .l 9 a10 (.string e.key), .p (.bool (!(Op.bytesLess (e0.key).toList (e.key).toList))), .p (.bool (!(Op.bytesLess (e0.key).toList (e.key).toList)))] [(0, a1), (6, a1), (7, .int .i64 ((L.length : Nat) : Int)), (8, .int .i64 ((i : Nat) : Int)), (30, .bool (!(Op.bytesLess (e0.key).toList (e.key).toList)))] (⟨st18.get 0 rfl, hin.ext0 st18.ext⟩) (fun _ hS => ⟨(InS.load1 nagg_9 (hS.2) (entCells_0 he0 rfl)), ld1b (hS.1) nagg_9 rfl, trivial⟩) ?_
     refine RS_nil <| n_then <| W_cond rfl (fun c30_20 => ?_) (fun c30_20 => ?_)
     ·
      refine W_seq <| W_region <| RP_sg 1 [.p (.int .i64 90)] [(2, .int .i64 90)] trivial ?_
      refine RP_nil <| n_then <| W_ret <| r_block <| r_then <| r_loop <| r_block <| r_then ?_
      have hp : prevE L i = some e0 := by unfold prevE; rw [if_neg (by omega)]; exact he0
      have hok : okM (prevE L i) e = 90 := by unfold okM; rw [c16_17, hp]; (try dsimp only); (try rw [c30_20]); rfl
      have hnz : (90 : Int) ≠ 0 := (by decide : (90 : Int) ≠ 0)
      have hz : chkM none L = 90 := by rw [← hle, chkM_drop L he, hok, show ((90 : Int) != 0) = true from by simpa using hnz]; rfl
      refine ret_of (P := Tryd.prog) (fn := Tryd.f57) (m := [(2, .int .i64 90)]) (w := w14.drew) (res1 rfl (rv_tmp rfl)) ?_
      exact ⟨by rw [hz], st18.ext⟩
     ·
      refine W_skip <| n_block <| n_then <| W_region <| RP_sg 2 [.p (.int .i64 (IntKind.i64.wrap (((i : Nat) : Int) + 1))), .p (.int .i64 (IntKind.i64.wrap (((i : Nat) : Int) + 1)))] [(0, a1), (6, a1), (7, .int .i64 ((L.length : Nat) : Int)), (8, .int .i64 (IntKind.i64.wrap (((i : Nat) : Int) + 1)))] trivial ?_
      refine RP_nil ?_
      have hp : prevE L i = some e0 := by unfold prevE; rw [if_neg (by omega)]; exact he0
      have hok : okM (prevE L i) e = 0 := by unfold okM; rw [c16_17, hp]; (try dsimp only); (try rw [c30_20]); rfl
      have hz : chkM (prevE L (i + 1)) (L.drop (i + 1)) = chkM none L := by rw [← hle, chkM_drop L he, hok]; rfl
      exact ⟨_, by omega, (i + 1), rfl, by rw [inc_w (n := i) (by omega)], st18.sub [] (List.sublist_cons_self _ _), by omega, hz⟩
    ·
     have c20_19p := of_decide_eq_false c20_19
     refine RS_at (m' := [(0, a1), (3, .int .i64 ((i : Nat) : Int)), (4, a10), (6, a1), (7, .int .i64 ((L.length : Nat) : Int)), (8, .int .i64 ((i : Nat) : Int)), (20, .bool false)]) (by rw [c20_19]) ?_
     refine RS_sg 10 [.no, .no, .no, .no, .no, .no, .no, .no, .no, .p (.bool false)] [(0, a1), (6, a1), (7, .int .i64 ((L.length : Nat) : Int)), (8, .int .i64 ((i : Nat) : Int)), (30, .bool false)] (⟨st18.get 0 rfl, hin.ext0 st18.ext⟩) (fun _ hS => trivial) ?_
     refine RS_nil <| n_then <| W_false rfl ?_
     refine W_skip <| n_block <| n_then <| W_region <| RP_sg 2 [.p (.int .i64 (IntKind.i64.wrap (((i : Nat) : Int) + 1))), .p (.int .i64 (IntKind.i64.wrap (((i : Nat) : Int) + 1)))] [(0, a1), (6, a1), (7, .int .i64 ((L.length : Nat) : Int)), (8, .int .i64 (IntKind.i64.wrap (((i : Nat) : Int) + 1)))] trivial ?_
     refine RP_nil ?_
     have hp : prevE L i = none := by unfold prevE; rw [if_pos (by omega)]
     have hok : okM (prevE L i) e = 0 := by unfold okM; rw [c16_17, hp]; (try dsimp only);  rfl
     have hz : chkM (prevE L (i + 1)) (L.drop (i + 1)) = chkM none L := by rw [← hle, chkM_drop L he, hok]; rfl
     exact ⟨_, by omega, (i + 1), rfl, by rw [inc_w (n := i) (by omega)], st18.sub [] (List.sublist_cons_self _ _), by omega, hz⟩
  ·
   have c9_4p := of_decide_eq_false c9_4
   refine W_exit ?_
   refine e_then <| e_loop <| e_here ?_
   refine n_then <| W_seq <| W_region <| RP_sg 1 [.p (.int .i64 0)] [(2, .int .i64 0)] trivial ?_
   refine RP_nil <| n_then <| W_ret ?_
   have hiL : i = L.length := by omega
   rw [hiL, List.drop_length] at hle
   have hz : chkM none L = 0 := hle.symm
   refine ret_of (P := Tryd.prog) (fn := Tryd.f57) (m := [(2, .int .i64 0)]) (w := w3) (res1 rfl (rv_tmp rfl)) ?_
   exact ⟨by rw [hz], st2.ext⟩
def chk2 (a b : List Ent) : Int := cond (chkM none a != 0) (chkM none a) (chkM none b)
theorem mergecheck2_cr {w : World} {b d : Option Addr} {c f : Nat} (A B : List Ent) (ha : InS w b (entCells A)) (hb : InS w d (entCells B)) (hA : A.length < 1000000) (hB : B.length < 1000000) :
    CR Tryd.prog 137 [.slice b A.length c, .slice d B.length f] w fun v w' => v = .int .i64 (chk2 A B) ∧ Ext [] w w' := by
  have st := St.init w []
  unfold chk2
  refine CR_enter Tryd.func137 rfl Tryd.ntmps137 rfl ?_
  refine W_seq <| W_region ?_
  let a1 : Value := .slice b A.length c
  let a2 : Value := .slice d B.length f
  refine RP_sg 1 [.p (.int .i64 0)] [(0, a1), (1, a2)] trivial ?_
  refine RP_nil <| n_then <| W_seq <| W_seq <| W_region <| RP_sg 1 [.p a1] [(1, a2), (6, a1)] trivial ?_
  refine RP_e rfl (ef_call (k := 57) (args := [a1]) (mergeCheck_cr A (ha.ext0 st.ext) hA) body_57 (by kernel_rfl)) ?_
  rintro _ w3 ⟨_, rfl, rfl, hx5⟩
  have st4 := st.call0 hx5
  refine RP_sg 1 [.p (.int .i64 (chkM none A))] [(1, a2), (5, .int .i64 (chkM none A))] trivial ?_
  refine RP_nil <| n_then <| W_seq <| W_region <| RP_sg 2 [.p (.int .i64 (chkM none A)), .p (.bool ((chkM none A) != 0))] [(1, a2), (5, .int .i64 (chkM none A)), (9, .bool ((chkM none A) != 0))] trivial ?_
  refine RP_nil <| n_then <| W_cond rfl (fun c9_6 => ?_) (fun c9_6 => ?_)
  ·
   refine W_seq <| W_region <| RP_sg 2 [.p (.int .i64 (chkM none A)), .p (.int .i64 (chkM none A))] [(4, .int .i64 (chkM none A))] trivial ?_
   refine RP_nil <| n_then <| W_ret <| r_then ?_
   refine ret_of (P := Tryd.prog) (fn := Tryd.f137) (m := [(4, .int .i64 (chkM none A))]) (w := w3) (res1 rfl (rv_tmp rfl)) ?_
   exact ⟨by (try rw [c9_6]); rfl, st4.ext⟩
  ·
   refine W_skip <| n_then <| W_seq <| W_region <| RP_sg 1 [.p a2] [(11, a2)] trivial ?_
   refine RP_e rfl (ef_call (k := 57) (args := [a2]) (mergeCheck_cr B (hb.ext0 st4.ext) hB) body_57 (by kernel_rfl)) ?_
   rintro _ w7 ⟨_, rfl, rfl, hx9⟩
   have st8 := st4.call0 hx9
   refine RP_sg 1 [.p (.int .i64 (chkM none B))] [(4, .int .i64 (chkM none B))] trivial ?_
   refine RP_nil <| n_then <| W_ret <| ret_of (P := Tryd.prog) (fn := Tryd.f137) (m := [(4, .int .i64 (chkM none B))]) (w := w7) (res1 rfl (rv_tmp rfl)) ?_
   exact ⟨by (try rw [c9_6]); rfl, st8.ext⟩
def inErr (L : List Ent) (r : Rng) : Int := cond (chkM none L != 0) (chkM none L) (cond (r.check != 0) r.check 0)
def inL (L : List Ent) (r : Rng) : List Ent := L.filter (fun e => r.holds e.key)
theorem inL_succ {L : List Ent} {i : Nat} {e : Ent} {r : Rng} (he : L[i]? = some e) : inL (L.take (i + 1)) r = inL (L.take i) r ++ cond (r.holds e.key) [e] [] := by
  unfold inL
  rw [List.take_succ, he, List.filter_append]
  cases h : r.holds e.key <;> simp [h]
theorem inL_le (L : List Ent) (r : Rng) : (inL L r).length ≤ L.length := List.length_filter_le _ _
theorem mergeIn_cr {w : World} {b : Option Addr} {c : Nat} (L : List Ent) (r : Rng) (hin : InS w b (entCells L)) (hL : L.length < 100000) :
    CR Tryd.prog 22 [.slice b L.length c, r.v] w fun v w' => ∃ d f, v = .tuple #[.slice d (cond (inErr L r != 0) [] (inL L r)).length f, .int .i64 (inErr L r)] ∧ Acc w [] w' 61 5 (.slice d (cond (inErr L r != 0) [] (inL L r)).length f) (cond (inErr L r != 0) [] (inL L r)).length (entCells (cond (inErr L r != 0) [] (inL L r))) ∧ Ext [] w w' := by
  have st := St.init w []
  refine CR_enter Tryd.func22 rfl Tryd.ntmps22 rfl ?_
  refine W_seq <| W_region <| RP_e rfl (ef_box st rfl rfl) ?_
  rintro _ w1 ⟨g4, rfl, hg4, hg4', st2, hx3⟩
  replace st2 : St [] w w1 [(g4, 24, [.string r.lo, .string r.hi, .bool r.op])] := st2
  let a5 : Value := .slice b L.length c
  let a6 : Value := .pointer (some ⟨g4, 0, none⟩)
  refine RP_sg 2 [.p (.slice none 0 0), .p (.int .i64 0)] [(0, a5), (3, a6)] trivial ?_
  refine RP_nil <| n_then <| W_seq <| W_seq <| W_region <| RP_sg 1 [.p a5] [(0, a5), (3, a6), (11, a5)] trivial ?_
  refine RP_e rfl (ef_call (k := 57) (args := [a5]) (mergeCheck_cr L (hin.ext0 st2.ext) (by omega)) body_57 (by kernel_rfl)) ?_
  rintro _ w7 ⟨_, rfl, rfl, hx9⟩
  have st8 := st2.call0 hx9
  refine RP_sg 1 [.p (.int .i64 (chkM none L))] [(0, a5), (3, a6), (6, .int .i64 (chkM none L))] trivial ?_
  refine RP_nil <| n_then <| W_seq <| W_region <| RP_sg 2 [.p (.int .i64 (chkM none L)), .p (.bool ((chkM none L) != 0))] [(0, a5), (3, a6), (6, .int .i64 (chkM none L)), (14, .bool ((chkM none L) != 0))] trivial ?_
  refine RP_nil <| n_then <| W_cond rfl (fun c14_10 => ?_) (fun c14_10 => ?_)
  ·
   refine W_seq <| W_region ?_
   let a11 : Value := .slice none 0 0
   refine RP_sg 3 [.p (.int .i64 (chkM none L)), .p a11, .p (.int .i64 (chkM none L))] [(4, a11), (5, .int .i64 (chkM none L))] trivial ?_
   refine RP_nil <| n_then <| W_ret <| r_then ?_
   have hz : inErr L r = chkM none L := by unfold inErr; (try rw [c14_10]); rfl
   have hd : (inErr L r != 0) = true := by rw [hz]; exact c14_10
   refine ret_of (P := Tryd.prog) (fn := Tryd.f22) (m := [(4, .slice none 0 0), (5, .int .i64 (chkM none L))]) (w := w7) (res2 rfl (rv_tmp rfl) (rv_tmp rfl)) ?_
   exact ⟨none, 0, by rw [hd, hz]; rfl, by rw [hd]; exact Acc.nil _ _ _ _ _, st8.ext⟩
  ·
   refine W_skip <| n_then <| W_seq <| W_seq <| W_region ?_
   let a12 : Value := .agg #[.string r.lo, .string r.hi, .bool r.op]
   refine RP_sg 1 [.l 24 a6 a12] [(0, a5), (3, a6), (16, a12)] ⟨ldN st8 agg_24 0 rfl rfl rfl, trivial⟩ ?_
   refine RP_e rfl (ef_call (k := 29) (args := [a12]) (spanCheck_cr r _) body_29 (by kernel_rfl)) ?_
   rintro _ w13 ⟨_, rfl, rfl, hx15⟩
   have st14 := st8.call0 hx15
   refine RP_sg 1 [.p (.int .i64 r.check)] [(0, a5), (3, a6), (7, .int .i64 r.check)] trivial ?_
   refine RP_nil <| n_then <| W_seq <| W_region <| RP_sg 2 [.p (.int .i64 r.check), .p (.bool (r.check != 0))] [(0, a5), (3, a6), (7, .int .i64 r.check), (19, .bool (r.check != 0))] trivial ?_
   refine RP_nil <| n_then <| W_cond rfl (fun c19_16 => ?_) (fun c19_16 => ?_)
   ·
    refine W_seq <| W_region ?_
    let a17 : Value := .slice none 0 0
    refine RP_sg 3 [.p (.int .i64 r.check), .p a17, .p (.int .i64 r.check)] [(4, a17), (5, .int .i64 r.check)] trivial ?_
    refine RP_nil <| n_then <| W_ret <| r_then ?_
    have hz : inErr L r = r.check := by unfold inErr; (try rw [c14_10]); (try rw [c19_16]); rfl
    have hd : (inErr L r != 0) = true := by rw [hz]; exact c19_16
    refine ret_of (P := Tryd.prog) (fn := Tryd.f22) (m := [(4, .slice none 0 0), (5, .int .i64 r.check)]) (w := w13) (res2 rfl (rv_tmp rfl) (rv_tmp rfl)) ?_
    exact ⟨none, 0, by rw [hd, hz]; rfl, by rw [hd]; exact Acc.nil _ _ _ _ _, st14.ext⟩
   ·
    refine W_skip <| n_then <| W_seq <| W_region ?_
    let a18 : Value := .slice none 0 0
    refine RP_sg 1 [.p a18] [(0, a5), (3, a6), (8, a18)] trivial ?_
    refine RP_nil <| n_then <| W_seq <| W_seq <| W_region <| RP_sg 3 [.p a5, .p (.int .i64 ((L.length : Nat) : Int)), .p (.int .i64 0)] [(3, a6), (8, a18), (21, a5), (22, .int .i64 ((L.length : Nat) : Int)), (23, .int .i64 0)] trivial ?_
    refine RP_nil <| n_then <| W_block <| W_loop (fun k_ m_ w_ => ∃ (i : Nat) (b2 : Option Addr) (c2 : Nat), L.length - i = k_ ∧ m_ = [(3, a6), (8, .slice b2 ((inL (L.take i) r).length) c2), (21, a5), (22, .int .i64 ((L.length : Nat) : Int)), (23, .int .i64 ((i : Nat) : Int))] ∧ St [] w w_ [(g4, 24, [.string r.lo, .string r.hi, .bool r.op])] ∧ i ≤ L.length ∧ Acc w [] w_ 61 5 (.slice b2 (inL (L.take i) r).length c2) (inL (L.take i) r).length (entCells (inL (L.take i) r))) ⟨0, none, 0, rfl, rfl, st14, Nat.zero_le _, Acc.nil _ _ _ _ _⟩ ?_
    rintro _ _ w20 ⟨i, b2, c2, rfl, rfl, st19, hil, hac⟩
    have hlo := ownsRow.lt hac.own
    have hle9 := inL_le (L.take i) r
    simp only [List.length_take] at hle9
    refine W_seq <| W_region ?_
    let a21 : Value := .slice b2 ((inL (L.take i) r).length) c2
    refine RP_sg 1 [.p (.bool (decide (((i : Nat) : Int) < ((L.length : Nat) : Int))))] [(3, a6), (8, a21), (21, a5), (22, .int .i64 ((L.length : Nat) : Int)), (23, .int .i64 ((i : Nat) : Int)), (24, .bool (decide (((i : Nat) : Int) < ((L.length : Nat) : Int))))] trivial ?_
    refine RP_nil <| n_then <| W_seq <| W_cond rfl (fun c24_22 => ?_) (fun c24_22 => ?_)
    ·
     have c24_22p := of_decide_eq_true c24_22
     refine W_skip <| n_then <| W_seq <| W_block <| W_seq <| W_region ?_
     have hlt : i < L.length := by omega
     obtain ⟨e, he⟩ : ∃ e, L[i]? = some e := ⟨L[i], by simp [hlt]⟩
     have hbs := hin.some_ (by rw [entCells_len]; omega)
     refine RP_q rfl (v := .pointer (some ⟨(sp b), so b + i * 5, none⟩)) (ev_indexI idxEnt rfl rfl hbs hlt) ?_
     let a23 : Value := .agg #[.string e.key, .int .i64 e.c, .int .i64 e.n, .string e.val, .bool e.dead]
     refine RP_sg 1 [.l 61 (.pointer (some ⟨(sp b), so b + i * 5, none⟩)) a23] [(3, a6), (8, a21), (21, a5), (22, .int .i64 ((L.length : Nat) : Int)), (23, .int .i64 ((i : Nat) : Int)), (26, a23)] ⟨InS.loadN agg_61 (hin.ext0 st19.ext) (entCells_at he) rfl (by decide), trivial⟩ ?_
     refine RP_e rfl (ef_alloc st19 zero_61 rfl) ?_
     rintro _ w24 ⟨ge, rfl, hge, hge', st25, hx26⟩
     replace st25 : St [] w w24 [(ge, 61, [.string (⟨#[]⟩ : ByteArray), .int .i64 0, .int .i64 0, .string (⟨#[]⟩ : ByteArray), .bool false]), (g4, 24, [.string r.lo, .string r.hi, .bool r.op])] := st25
     replace hac := hac.ext hx26 (by simp)
     refine RP_e rfl (ef_store st25 rfl rfl rfl size_61 0 rfl rfl rfl rfl (.inr hge)) ?_
     rintro _ w27 ⟨rfl, st28, hx29⟩
     replace st28 : St [] w w27 [(ge, 61, [.string e.key, .int .i64 e.c, .int .i64 e.n, .string e.val, .bool e.dead]), (g4, 24, [.string r.lo, .string r.hi, .bool r.op])] := st28
     replace hac := hac.ext hx29 (fun q hq hm => by simp only [List.mem_singleton] at hm; have := (hlo q hq).1; omega)
     let a30 : Value := .pointer (some ⟨ge, 0, none⟩)
     refine RP_pk [(3, a6), (8, a21), (10, a30), (21, a5), (22, .int .i64 ((L.length : Nat) : Int)), (23, .int .i64 ((i : Nat) : Int))] ?_
     refine RP_nil <| n_then <| W_seq <| W_region <| RP_sg 3 [.l 24 a6 a12, .p a30, .l 9 a30 (.string e.key)] [(3, a6), (8, a21), (10, a30), (21, a5), (22, .int .i64 ((L.length : Nat) : Int)), (23, .int .i64 ((i : Nat) : Int)), (27, a12), (29, .string e.key)] ⟨ldN st28 agg_24 1 rfl rfl rfl, ld1 st28 nagg_9 0 rfl rfl, trivial⟩ ?_
     refine RP_e rfl (ef_call (k := 58) (args := [a12, .string e.key]) (spanHolds_cr r e.key _) body_58 (by kernel_rfl)) ?_
     rintro _ w31 ⟨_, rfl, rfl, hx33⟩
     have st32 := st28.call0 hx33
     replace hac := hac.ext hx33 (by simp)
     refine RP_pk [(3, a6), (8, a21), (10, a30), (21, a5), (22, .int .i64 ((L.length : Nat) : Int)), (23, .int .i64 ((i : Nat) : Int)), (30, .bool (r.holds e.key))] ?_
     refine RP_nil <| n_then <| W_cond rfl (fun c30_34 => ?_) (fun c30_34 => ?_)
     ·
      refine W_region <| RP_sg 2 [.p a21, .l 61 a30 a23] [(3, a6), (21, a5), (22, .int .i64 ((L.length : Nat) : Int)), (23, .int .i64 ((i : Nat) : Int)), (31, a21), (32, a23)] ⟨ldN st32 agg_61 0 rfl rfl rfl, trivial⟩ ?_
      refine RP_e rfl (ef_new (t := 61) (cs := [.string e.key, .int .i64 e.c, .int .i64 e.n, .string e.val, .bool e.dead]) (fun g => .slice (some ⟨g, 0, none⟩) 1 1) st32 rfl rfl (fun _ => by kernel_rfl)) ?_
      rintro _ w35 ⟨g38, rfl, hg38, hg38', st36, hx37⟩
      replace hac := hac.ext hx37 (by simp)
      refine RP_e rfl (ef_appendI appEnt (st36.sub (M' := [(ge, 61, [.string e.key, .int .i64 e.c, .int .i64 e.n, .string e.val, .bool e.dead]), (g4, 24, [.string r.lo, .string r.hi, .bool r.op])]) [] (List.sublist_cons_self _ _)) hac rfl rfl (InS.of_blk (st36.get 0 rfl)) rfl rfl (by simp only [maxLen]; omega) (by omega) (apart_cons hlo hge' (Acc.apart hac ((st36.sub [] (List.sublist_cons_self _ _)).sub [] (List.sublist_cons_self _ _)) rfl))) ?_
      rintro _ w39 ⟨v3, rfl, hac, st40, hx41⟩
      obtain ⟨b3, c3, rfl⟩ := ownsRow.form' hac.own
      let a42 : Value := .slice b3 ((inL (L.take i) r).length + 1) c3
      refine RP_sg 1 [.p a42] [(3, a6), (8, a42), (21, a5), (22, .int .i64 ((L.length : Nat) : Int)), (23, .int .i64 ((i : Nat) : Int))] trivial ?_
      refine RP_nil <| n_block <| n_then <| W_region <| RP_sg 2 [.p (.int .i64 (IntKind.i64.wrap (((i : Nat) : Int) + 1))), .p (.int .i64 (IntKind.i64.wrap (((i : Nat) : Int) + 1)))] [(3, a6), (8, a42), (21, a5), (22, .int .i64 ((L.length : Nat) : Int)), (23, .int .i64 (IntKind.i64.wrap (((i : Nat) : Int) + 1)))] trivial ?_
      refine RP_nil ?_
      have hsn : inL (L.take (i + 1)) r = inL (L.take i) r ++ [e] := by rw [inL_succ he, c30_34]; rfl
      have hln : (inL (L.take i) r ++ [e]).length = (inL (L.take i) r).length + 1 := by simp
      rw [← hln] at hac
      exact ⟨_, by omega, (i + 1), b3, c3, rfl, by rw [inc_w (n := i) (by omega), hsn, hln], st40.sub [] (by simp), by omega, by rw [hsn]; rw [entCells_snoc]; exact hac⟩
     ·
      refine W_skip <| n_block <| n_then <| W_region <| RP_sg 2 [.p (.int .i64 (IntKind.i64.wrap (((i : Nat) : Int) + 1))), .p (.int .i64 (IntKind.i64.wrap (((i : Nat) : Int) + 1)))] [(3, a6), (8, a21), (21, a5), (22, .int .i64 ((L.length : Nat) : Int)), (23, .int .i64 (IntKind.i64.wrap (((i : Nat) : Int) + 1)))] trivial ?_
      refine RP_nil ?_
      have hsn : inL (L.take (i + 1)) r = inL (L.take i) r ++ [] := by rw [inL_succ he, c30_34]; rfl
      rw [List.append_nil] at hsn
      exact ⟨_, by omega, (i + 1), b2, c2, rfl, by rw [inc_w (n := i) (by omega), hsn], st32.sub [] (by simp), by omega, by rw [hsn]; exact hac⟩
    ·
     have c24_22p := of_decide_eq_false c24_22
     refine W_exit ?_
     refine e_then <| e_loop <| e_here ?_
     refine n_then <| W_seq <| W_region <| RP_sg 3 [.p a21, .p a21, .p (.int .i64 0)] [(4, a21), (5, .int .i64 0)] trivial ?_
     refine RP_nil <| n_then <| W_ret ?_
     have hiL : i = L.length := by omega
     have hz : inErr L r = 0 := by unfold inErr; (try rw [c14_10]); (try rw [c19_16]); (try rw [c24_22]); rfl
     have hd : (inErr L r != 0) = false := by rw [hz]; rfl
     rw [hiL, List.take_length] at hac
     refine ret_of (P := Tryd.prog) (fn := Tryd.f22) (m := [(4, .slice b2 ((inL (L.take i) r).length) c2), (5, .int .i64 0)]) (w := w20) (res2 rfl (rv_tmp rfl) (rv_tmp rfl)) ?_
     exact ⟨b2, c2, by rw [hiL, List.take_length, hd, hz]; rfl, by rw [hd]; exact hac, st19.ext⟩
end Go.Proofs.YtcopemgkjbaaeaaDoor
namespace Go.Proofs.YtcopemgkjbaaeaaDoor
set_option linter.all false
open Go.RowKit
abbrev Key := List UInt8
def kl (a b : Key) : Bool := Op.bytesLess a b
theorem kl_irrefl : ∀ a : Key, kl a a = false
  | [] => rfl
  | x :: a => by
    have h : ¬ x < x := fun h => by have := UInt8.lt_iff_toNat_lt.1 h; omega
    have := kl_irrefl a
    unfold kl at *
    simp [Op.bytesLess, h, this]
theorem kl_cons (x y : UInt8) (a b : Key) : kl (x :: a) (y :: b) = (decide (x.toNat < y.toNat) || (decide (x.toNat = y.toNat) && kl a b)) := by
  unfold kl
  simp only [Op.bytesLess]
  rcases Nat.lt_trichotomy x.toNat y.toNat with h | h | h
  · have h1 : x < y := UInt8.lt_iff_toNat_lt.2 h
    simp [h1, h]
  · have e : x = y := UInt8.toNat_inj.1 h
    subst e
    have h1 : ¬ x < x := fun h => by have := UInt8.lt_iff_toNat_lt.1 h; omega
    simp [h1]
  · have h1 : ¬ x < y := fun h2 => by have := UInt8.lt_iff_toNat_lt.1 h2; omega
    have h2 : (x == y) = false := by simp; intro e; subst e; omega
    have h3 : ¬ x.toNat < y.toNat := by omega
    have h4 : ¬ x.toNat = y.toNat := by omega
    have h5 : ¬ x = y := fun e => by subst e; omega
    simp [h1, h3, h4, h5]
theorem kl_trans : ∀ {a b c : Key}, kl a b = true → kl b c = true → kl a c = true
  | [], [], _, h, _ => by simp [kl, Op.bytesLess] at h
  | [], _ :: _, [], _, h => by simp [kl, Op.bytesLess] at h
  | [], _ :: _, _ :: _, _, _ => by simp [kl, Op.bytesLess]
  | _ :: _, [], _, h, _ => by simp [kl, Op.bytesLess] at h
  | _ :: _, _ :: _, [], _, h => by simp [kl, Op.bytesLess] at h
  | x :: a, y :: b, z :: c, h, k => by
    have ih := kl_trans (a := a) (b := b) (c := c)
    rw [kl_cons] at h k ⊢
    simp only [Bool.or_eq_true, Bool.and_eq_true, decide_eq_true_eq] at *
    rcases h with h | ⟨h, h'⟩ <;> rcases k with k | ⟨k, k'⟩
    · left; omega
    · left; omega
    · left; omega
    · right; exact ⟨by omega, ih h' k'⟩
theorem kl_total : ∀ a b : Key, kl a b = true ∨ a = b ∨ kl b a = true
  | [], [] => .inr (.inl rfl)
  | [], _ :: _ => .inl (by simp [kl, Op.bytesLess])
  | _ :: _, [] => .inr (.inr (by simp [kl, Op.bytesLess]))
  | x :: a, y :: b => by
    have ih := kl_total a b
    rw [kl_cons, kl_cons]
    simp only [Bool.or_eq_true, Bool.and_eq_true, decide_eq_true_eq, List.cons.injEq]
    rcases Nat.lt_trichotomy x.toNat y.toNat with h | h | h
    · exact .inl (.inl h)
    · have e : x = y := UInt8.toNat_inj.1 h
      subst e
      rcases ih with h | h | h
      · exact .inl (.inr ⟨rfl, h⟩)
      · exact .inr (.inl ⟨rfl, h⟩)
      · exact .inr (.inr (.inr ⟨rfl, h⟩))
    · exact .inr (.inr (.inl h))
theorem kl_asymm {a b : Key} (h : kl a b = true) : kl b a = false := by
  cases hb : kl b a
  · rfl
  · have := kl_trans h hb; rw [kl_irrefl] at this; cases this
theorem kl_ne {a b : Key} (h : kl a b = true) : a ≠ b := fun e => by subst e; rw [kl_irrefl] at h; cases h
theorem kl_eq {a b : Key} (h : kl a b = false) (k : kl b a = false) : a = b := by
  rcases kl_total a b with h1 | h1 | h1
  · rw [h1] at h; cases h
  · exact h1
  · rw [h1] at k; cases k
def Ent.k (e : Ent) : Key := e.key.toList
def Srt (l : List Ent) : Prop := l.Pairwise fun a b => kl a.k b.k = true
def lk (l : List Ent) (k : Key) : Option Ent := l.find? fun e => e.k == k
theorem Srt.nil : Srt [] := List.Pairwise.nil
theorem Srt.cons {e : Ent} {l : List Ent} : Srt (e :: l) ↔ (∀ x ∈ l, kl e.k x.k = true) ∧ Srt l := List.pairwise_cons
theorem Srt.sub {l m : List Ent} (h : Srt m) (hs : l.Sublist m) : Srt l := List.Pairwise.sublist hs h
theorem lk_nil (k : Key) : lk [] k = none := rfl
theorem lk_cons (e : Ent) (l : List Ent) (k : Key) : lk (e :: l) k = cond (e.k == k) (some e) (lk l k) := by
  unfold lk
  rw [List.find?_cons]
  cases e.k == k <;> rfl
theorem lk_none {l : List Ent} {k : Key} (h : ∀ x ∈ l, x.k ≠ k) : lk l k = none := by
  unfold lk
  rw [List.find?_eq_none]
  intro x hx
  simpa using h x hx
theorem lk_some {l : List Ent} {k : Key} {e : Ent} (h : lk l k = some e) : e ∈ l ∧ e.k = k := by
  unfold lk at h
  exact ⟨List.mem_of_find?_eq_some h, by simpa using List.find?_some h⟩
theorem lk_mem {l : List Ent} (hs : Srt l) {e : Ent} (he : e ∈ l) : lk l e.k = some e := by
  induction l with
  | nil => cases he
  | cons x l ih =>
    rw [lk_cons]
    rcases List.mem_cons.1 he with rfl | he
    · simp
    · have h1 := (Srt.cons.1 hs).1 e he
      have : (x.k == e.k) = false := by simpa using kl_ne h1
      rw [this]
      exact ih (Srt.cons.1 hs).2 he
theorem lk_gt {e : Ent} {l : List Ent} (hs : Srt (e :: l)) : lk l e.k = none := lk_none fun x hx => fun h => kl_ne ((Srt.cons.1 hs).1 x hx) h.symm
theorem lk_lt {e : Ent} {l : List Ent} (hs : Srt (e :: l)) {k : Key} (h : kl k e.k = true) : lk (e :: l) k = none :=
  lk_none fun x hx hk => by
    rcases List.mem_cons.1 hx with rfl | hx
    · exact kl_ne h hk.symm
    · exact kl_ne (kl_trans h ((Srt.cons.1 hs).1 x hx)) hk.symm
theorem lk_append (a b : List Ent) (k : Key) : lk (a ++ b) k = (lk a k).or (lk b k) := by unfold lk; rw [List.find?_append]
theorem srt_ext {α : Type} (f : Ent → α) : ∀ {l m : List Ent}, Srt l → Srt m → (∀ k, (lk l k).map f = (lk m k).map f) → l.map f = m.map f
  | [], [], _, _, _ => rfl
  | [], y :: m, _, hm, h => by
    have := h y.k
    rw [lk_mem hm List.mem_cons_self] at this
    simp [lk_nil] at this
  | x :: l, [], hl, _, h => by
    have := h x.k
    rw [lk_mem hl List.mem_cons_self] at this
    simp [lk_nil] at this
  | x :: l, y :: m, hl, hm, h => by
    have hx := h x.k
    have hy := h y.k
    rw [lk_mem hl List.mem_cons_self] at hx
    rw [lk_mem hm List.mem_cons_self] at hy
    have hk : x.k = y.k := by
      rcases kl_total x.k y.k with h1 | h1 | h1
      · rw [lk_lt hm h1] at hx; cases hx
      · exact h1
      · rw [lk_lt hl h1] at hy; cases hy
    have hf : f x = f y := by
      rw [hk, lk_mem hm List.mem_cons_self] at hx
      simpa using hx
    have ih := srt_ext f (Srt.cons.1 hl).2 (Srt.cons.1 hm).2 fun k => by
      by_cases e : x.k = k
      · subst e
        rw [lk_gt hl, hk, lk_gt hm]
      · have hk2 := h k
        rw [lk_cons, lk_cons, ← hk, show (x.k == k) = false from by simpa using e] at hk2
        exact hk2
    rw [List.map_cons, List.map_cons, hf, ih]
theorem lk_filter (p : Key → Bool) : ∀ (l : List Ent) (k : Key), lk (l.filter fun e => p e.k) k = cond (p k) (lk l k) none
  | [], k => by cases p k <;> rfl
  | x :: l, k => by
    have ih := lk_filter p l k
    rw [List.filter_cons]
    by_cases e : x.k = k
    · subst e
      cases hp : p x.k
      · rw [if_neg (by simp), ih, hp]; rfl
      · rw [if_pos rfl, lk_cons, lk_cons]; simp
    · have he : (x.k == k) = false := by simpa using e
      rw [lk_cons, he, cond_false]
      split
      · rw [lk_cons, he, cond_false, ih]
      · exact ih
def ins (e : Ent) : List Ent → List Ent
  | [] => [e]
  | x :: l => cond (kl e.k x.k) (e :: x :: l) (cond (kl x.k e.k) (x :: ins e l) (e :: l))
theorem ins_mem {e : Ent} : ∀ {l : List Ent} {x : Ent}, x ∈ ins e l → x = e ∨ x ∈ l
  | [], x, h => by simpa [ins] using h
  | y :: l, x, h => by
    have ih := ins_mem (e := e) (l := l) (x := x)
    simp only [ins] at h
    cases h1 : kl e.k y.k <;> cases h2 : kl y.k e.k <;> rw [h1, h2] at h <;> simp only [cond_true, cond_false, List.mem_cons] at h ⊢
    · rcases h with h | h
      · exact .inl h
      · exact .inr (.inr h)
    · rcases h with h | h
      · exact .inr (.inl h)
      · exact (ih h).imp id .inr
    all_goals (rcases h with h | h | h; exact .inl h; exact .inr (.inl h); exact .inr (.inr h))
theorem ins_srt {e : Ent} : ∀ {l : List Ent}, Srt l → Srt (ins e l)
  | [], _ => by simp [ins, Srt]
  | y :: l, h => by
    obtain ⟨h1, h2⟩ := Srt.cons.1 h
    simp only [ins]
    cases ha : kl e.k y.k
    · cases hb : kl y.k e.k
      · simp only [cond_false]
        have := kl_eq ha hb
        exact Srt.cons.2 ⟨fun x hx => by rw [this]; exact h1 x hx, h2⟩
      · simp only [cond_true, cond_false]
        refine Srt.cons.2 ⟨fun x hx => ?_, ins_srt h2⟩
        rcases ins_mem hx with rfl | hx
        · exact hb
        · exact h1 x hx
    · simp only [cond_true]
      refine Srt.cons.2 ⟨fun x hx => ?_, h⟩
      rcases List.mem_cons.1 hx with rfl | hx
      · exact ha
      · exact kl_trans ha (h1 x hx)
theorem lk_ins {e : Ent} : ∀ {l : List Ent}, Srt l → ∀ k, lk (ins e l) k = cond (e.k == k) (some e) (lk l k)
  | [], _, k => by simp only [ins, lk_cons]
  | y :: l, h, k => by
    obtain ⟨h1, h2⟩ := Srt.cons.1 h
    have ih := lk_ins (e := e) h2 k
    simp only [ins]
    cases ha : kl e.k y.k
    · cases hb : kl y.k e.k
      · simp only [cond_false, lk_cons]
        rw [kl_eq ha hb]
        cases y.k == k <;> rfl
      · simp only [cond_true, cond_false, lk_cons, ih]
        by_cases hk : y.k = k
        · subst hk
          have : (e.k == y.k) = false := by simpa using (kl_ne hb).symm
          simp [this]
        · have : (y.k == k) = false := by simpa using hk
          simp [this]
    · simp only [cond_true, lk_cons]
theorem ins_len {e : Ent} : ∀ {l : List Ent}, Srt l → (ins e l).length = cond (lk l e.k).isSome l.length (l.length + 1)
  | [], _ => rfl
  | y :: l, h => by
    obtain ⟨h1, h2⟩ := Srt.cons.1 h
    have ih := ins_len (e := e) h2
    simp only [ins]
    cases ha : kl e.k y.k
    · cases hb : kl y.k e.k
      · simp only [cond_false, lk_cons, kl_eq ha hb]; simp
      · simp only [cond_true, cond_false, List.length_cons, lk_cons, ih]
        have : (y.k == e.k) = false := by simpa using kl_ne hb
        rw [this, cond_false]
        cases (lk l e.k).isSome <;> rfl
    · simp only [cond_true, List.length_cons]
      rw [lk_lt h ha]; rfl
end Go.Proofs.YtcopemgkjbaaeaaDoor
namespace Go.Proofs.YtcopemgkjbaaeaaDoor
set_option linter.all false
open Go.RowKit
theorem T.size_list : ∀ t : T, t.size = t.list.length
  | .nil => rfl
  | .node e l r => by simp only [T.size, T.list, List.length_append, List.length_cons, T.size_list l, T.size_list r]; omega
theorem T.even_list (e : Ent) (l r : T) : (T.even e l r).list = l.list ++ e :: r.list := by
  unfold T.even
  by_cases h1 : r.high + 1 < l.high
  · rw [if_pos h1]
    cases l with
    | nil => simp [T.high] at h1
    | node le ll lr =>
      by_cases h2 : lr.high ≤ ll.high
      · simp only [if_pos h2, T.list, List.append_assoc, List.cons_append]
      · simp only [if_neg h2]
        cases lr with
        | nil => simp [T.high] at h2
        | node me ml mr => simp only [T.list, List.append_assoc, List.cons_append]
  · rw [if_neg h1]
    by_cases h2 : l.high + 1 < r.high
    · rw [if_pos h2]
      cases r with
      | nil => simp [T.high] at h2
      | node re rl rr =>
        by_cases h3 : rl.high ≤ rr.high
        · simp only [if_pos h3, T.list, List.append_assoc, List.cons_append]
        · simp only [if_neg h3]
          cases rl with
          | nil => simp [T.high] at h3
          | node me ml mr => simp only [T.list, List.append_assoc, List.cons_append]
    · rw [if_neg h2]; rfl
theorem klt_kl (a b : ByteArray) : klt a b = kl a.toList b.toList := rfl
theorem kgt_kl (a b : ByteArray) : kgt a b = kl b.toList a.toList := by
  unfold kgt
  rw [blt_total]; simp [kl]
theorem ins_left {e x : Ent} (h : kl e.k x.k = true) (r : List Ent) : ∀ l : List Ent, ins e (l ++ x :: r) = ins e l ++ x :: r
  | [] => by simp only [List.nil_append, ins, h, cond_true, List.cons_append]
  | y :: l => by
    have ih := ins_left h r l
    simp only [List.cons_append, ins, ih]
    cases kl e.k y.k <;> cases kl y.k e.k <;> rfl
theorem ins_right {e x : Ent} (h : kl x.k e.k = true) (r : List Ent) : ∀ l : List Ent, (∀ y ∈ l, kl y.k x.k = true) → ins e (l ++ x :: r) = l ++ x :: ins e r
  | [], _ => by simp only [List.nil_append, ins, kl_asymm h, h, cond_true, cond_false]
  | y :: l, hl => by
    have ih := ins_right h r l fun z hz => hl z (List.mem_cons_of_mem _ hz)
    have hy := kl_trans (hl y List.mem_cons_self) h
    simp only [List.cons_append, ins, ih, kl_asymm hy, hy, cond_true, cond_false]
theorem ins_eq {e x : Ent} (h : x.k = e.k) (r : List Ent) : ∀ l : List Ent, (∀ y ∈ l, kl y.k x.k = true) → ins e (l ++ x :: r) = l ++ e :: r
  | [], _ => by simp only [List.nil_append, ins, h, kl_irrefl, cond_false]
  | y :: l, hl => by
    have ih := ins_eq h r l fun z hz => hl z (List.mem_cons_of_mem _ hz)
    have hy := hl y List.mem_cons_self
    rw [h] at hy
    simp only [List.cons_append, ins, ih, kl_asymm hy, hy, cond_true, cond_false]
theorem Srt.app {a b : List Ent} {x : Ent} (h : Srt (a ++ x :: b)) : Srt a ∧ Srt b ∧ (∀ y ∈ a, kl y.k x.k = true) ∧ (∀ y ∈ b, kl x.k y.k = true) := by
  unfold Srt at *
  rw [List.pairwise_append, List.pairwise_cons] at h
  exact ⟨h.1, h.2.1.2, fun y hy => h.2.2 y hy x List.mem_cons_self, fun y hy => h.2.1.1 y hy⟩
theorem T.put_list (e : Ent) : ∀ t : T, Srt t.list → (T.put e t).list = ins e t.list
  | .nil, _ => rfl
  | .node x l r, h => by
    simp only [T.list] at h
    obtain ⟨hl, hr, h1, h2⟩ := Srt.app h
    have ihl := T.put_list e l hl
    have ihr := T.put_list e r hr
    simp only [T.put, klt_kl, kgt_kl]
    show T.list (bif kl e.k x.k then T.even x (T.put e l) r else bif kl x.k e.k then T.even x l (T.put e r) else T.node e l r) = _
    cases ha : kl e.k x.k
    · cases hb : kl x.k e.k
      · simp only [cond_false, T.list]
        rw [ins_eq (kl_eq hb ha) _ _ h1]
      · simp only [cond_true, cond_false, T.even_list, T.list, ihr]
        rw [ins_right hb _ _ h1]
    · simp only [cond_true, T.even_list, T.list, ihl]
      rw [ins_left ha]
theorem T.get_list (k : ByteArray) : ∀ t : T, Srt t.list → t.get k = lk t.list k.toList
  | .nil, _ => rfl
  | .node x l r, h => by
    simp only [T.list] at h
    obtain ⟨hl, hr, h1, h2⟩ := Srt.app h
    have ihl := T.get_list k l hl
    have ihr := T.get_list k r hr
    simp only [T.get, klt_kl, kgt_kl, T.list, lk_append, lk_cons]
    show (bif kl k.toList x.k then _ else bif kl x.k k.toList then _ else _) = _
    cases ha : kl k.toList x.k
    · cases hb : kl x.k k.toList
      · have e := kl_eq hb ha
        simp only [cond_false, e, BEq.rfl, cond_true]
        rw [lk_none fun y hy => by rw [← e]; exact kl_ne (h1 y hy)]
        rfl
      · simp only [cond_true, cond_false]
        have e : (x.k == k.toList) = false := by simpa using kl_ne hb
        rw [e, cond_false, lk_none fun y hy => kl_ne (kl_trans (h1 y hy) hb), ihr]; rfl
    · simp only [cond_true]
      have e : (x.k == k.toList) = false := by simpa using (kl_ne ha).symm
      rw [e, cond_false, lk_none (l := r.list) fun y hy => (kl_ne (kl_trans ha (h2 y hy))).symm, ihl]
      cases lk l.list k.toList <;> rfl
def cnt (l : List Ent) (k : Key) : Nat := (l.filter fun x => kl x.k k).length
theorem srt_split (k : Key) : ∀ {l : List Ent}, Srt l → l = (l.filter fun x => kl x.k k) ++ l.filter fun x => !kl x.k k
  | [], _ => rfl
  | x :: l, h => by
    obtain ⟨h1, h2⟩ := Srt.cons.1 h
    have ih := srt_split k h2
    cases hx : kl x.k k
    · have h3 : (l.filter fun x => kl x.k k) = [] := by
        rw [List.filter_eq_nil_iff]
        intro y hy hk
        have := kl_trans (h1 y hy) hk
        rw [hx] at this; cases this
      have h4 : (l.filter fun x => !kl x.k k) = l := by rw [h3] at ih; exact ih.symm
      rw [List.filter_cons, List.filter_cons, hx, h3, h4]; rfl
    · rw [List.filter_cons, List.filter_cons, hx]
      simp only [if_true, Bool.not_true, Bool.false_eq_true, if_false, List.cons_append]
      rw [← ih]
theorem take_cnt (k : Key) {l : List Ent} (h : Srt l) : l.take (cnt l k) = l.filter fun x => kl x.k k := by
  have := srt_split k h
  unfold cnt
  conv => lhs; rw [this]
  simp
theorem drop_cnt (k : Key) {l : List Ent} (h : Srt l) : l.drop (cnt l k) = l.filter fun x => !kl x.k k := by
  have := srt_split k h
  unfold cnt
  conv => lhs; rw [this]
  simp
theorem T.rank_list (k : ByteArray) : ∀ t : T, Srt t.list → t.rank k = cnt t.list k.toList
  | .nil, _ => rfl
  | .node x l r, h => by
    simp only [T.list] at h
    obtain ⟨hl, hr, h1, h2⟩ := Srt.app h
    have ihl := T.rank_list k l hl
    have ihr := T.rank_list k r hr
    simp only [T.rank, klt_kl]
    show (bif kl x.k k.toList then _ else _) = _
    unfold cnt at *
    simp only [T.list, List.filter_append, List.filter_cons, List.length_append]
    cases hx : kl x.k k.toList
    · simp only [cond_false, Bool.false_eq_true, if_false]
      rw [ihl, show (r.list.filter fun x => kl x.k k.toList) = [] from ?_]
      · rfl
      · rw [List.filter_eq_nil_iff]
        intro y hy hk
        have := kl_trans (h2 y hy) hk
        rw [hx] at this; cases this
    · simp only [cond_true, if_true, List.length_cons]
      rw [ihr, T.size_list l, show (l.list.filter fun x => kl x.k k.toList) = l.list from ?_]
      · omega
      · rw [List.filter_eq_self]
        intro y hy
        exact kl_trans (h1 y hy) hx
theorem T.rows_list : ∀ (t : T) (i j : Int), 0 ≤ i → t.rows i j = (t.list.take j.toNat).drop i.toNat
  | .nil, i, j, _ => by simp [T.rows, T.list]
  | .node e l r, i, j, hi => by
    have ihl := T.rows_list l i (if ((l.size : Nat) : Int) < j then ((l.size : Nat) : Int) else j) hi
    have ihr := T.rows_list r (if 0 > i - ((l.size : Nat) : Int) - 1 then 0 else i - ((l.size : Nat) : Int) - 1) (j - ((l.size : Nat) : Int) - 1) (by split <;> omega)
    have hsl := T.size_list l
    simp only [T.rows, T.list]
    cases h1 : decide (i ≥ j)
    · have h1' := of_decide_eq_false h1
      rw [ihl, ihr, cond_false]
      rw [List.take_append, List.drop_append, List.length_take]
      have e1 : l.list.take (if ((l.size : Nat) : Int) < j then ((l.size : Nat) : Int) else j).toNat = l.list.take j.toNat := by
        split
        · rw [hsl]
          rw [List.take_of_length_le (l := l.list) (i := j.toNat) (by omega)]
          simp
        · rfl
      rw [e1]
      congr 1
      by_cases h2 : ((l.size : Nat) : Int) < j
      · -- the row itself may be among them
        have h3 : decide (((l.size : Nat) : Int) ≥ j) = false := decide_eq_false (by omega)
        obtain ⟨q, hq⟩ : ∃ q, j.toNat - l.list.length = q + 1 := ⟨j.toNat - l.list.length - 1, by omega⟩
        rw [hq, List.take_succ_cons, show min j.toNat l.list.length = l.list.length from by omega]
        have hq2 : (j - ((l.size : Nat) : Int) - 1).toNat = q := by omega
        rw [hq2]
        by_cases h4 : i > ((l.size : Nat) : Int)
        · obtain ⟨s, hs⟩ : ∃ s, i.toNat - l.list.length = s + 1 := ⟨i.toNat - l.list.length - 1, by omega⟩
          rw [decide_eq_true h4, Bool.true_or, cond_true, List.nil_append, hs, List.drop_succ_cons, if_neg (by omega)]
          congr 1; omega
        · rw [decide_eq_false h4, h3, Bool.or_false, cond_false, show i.toNat - l.list.length = 0 from by omega, List.drop_zero, if_pos (by omega)]
          rfl
      · have h3 : decide (((l.size : Nat) : Int) ≥ j) = true := decide_eq_true (by omega)
        rw [h3, Bool.or_true, cond_true, show j.toNat - l.list.length = 0 from by omega, List.take_zero, show (j - ((l.size : Nat) : Int) - 1).toNat = 0 from by omega]
        simp
    · have h1' := of_decide_eq_true h1
      rw [cond_true, eq_comm, List.drop_eq_nil_iff, List.length_take]
      omega
theorem ins_last {e : Ent} : ∀ {l : List Ent}, (∀ y ∈ l, kl y.k e.k = true) → ins e l = l ++ [e]
  | [], _ => rfl
  | y :: l, h => by
    have hy := h y List.mem_cons_self
    have ih := ins_last (e := e) (l := l) fun z hz => h z (List.mem_cons_of_mem _ hz)
    simp only [ins, kl_asymm hy, hy, cond_true, cond_false, ih, List.cons_append]
end Go.Proofs.YtcopemgkjbaaeaaDoor
namespace Go.Proofs.YtcopemgkjbaaeaaDoor
set_option linter.all false
open Go.RowKit
def pairsN : Nat → List Ent → List Ent → List (Ent × Ent)
  | 0, _, _ => []
  | _ + 1, [], [] => []
  | n + 1, x :: a, [] => (x, Ent.zero) :: pairsN n a []
  | n + 1, [], y :: b => (Ent.zero, y) :: pairsN n [] b
  | n + 1, x :: a, y :: b => cond (klt x.key y.key) ((x, Ent.zero) :: pairsN n a (y :: b)) (cond (klt y.key x.key) ((Ent.zero, y) :: pairsN n (x :: a) b) ((x, y) :: pairsN n a b))
theorem pairsN_more : ∀ (n : Nat) (a b : List Ent), a.length + b.length ≤ n → pairsN (n + 1) a b = pairsN n a b
  | 0, a, b, h => by
    obtain rfl : a = [] := List.eq_nil_of_length_eq_zero (by omega)
    obtain rfl : b = [] := List.eq_nil_of_length_eq_zero (by omega)
    rfl
  | n + 1, [], [], _ => rfl
  | n + 1, x :: a, [], h => by
    have := pairsN_more n a [] (by simp at h ⊢; omega)
    simp only [pairsN] at this ⊢; rw [this]
  | n + 1, [], y :: b, h => by
    have := pairsN_more n [] b (by simp at h ⊢; omega)
    simp only [pairsN] at this ⊢; rw [this]
  | n + 1, x :: a, y :: b, h => by
    have h1 := pairsN_more n a (y :: b) (by simp at h ⊢; omega)
    have h2 := pairsN_more n (x :: a) b (by simp at h ⊢; omega)
    have h3 := pairsN_more n a b (by simp at h ⊢; omega)
    rw [pairsN, h1, h2, h3, pairsN]
def pairsL (a b : List Ent) : List (Ent × Ent) := pairsN (a.length + b.length) a b
theorem pairsN_eq (a b : List Ent) : ∀ k, pairsN (a.length + b.length + k) a b = pairsL a b
  | 0 => rfl
  | k + 1 => by rw [show a.length + b.length + (k + 1) = (a.length + b.length + k) + 1 from rfl, pairsN_more _ _ _ (by omega), pairsN_eq a b k]
theorem pairsL_le : ∀ (n : Nat) (a b : List Ent), (pairsN n a b).length ≤ a.length + b.length
  | 0, _, _ => Nat.zero_le _
  | _ + 1, [], [] => Nat.le_refl _
  | n + 1, x :: a, [] => by have := pairsL_le n a []; simp only [pairsN, List.length_cons, List.length_nil] at *; omega
  | n + 1, [], y :: b => by have := pairsL_le n [] b; simp only [pairsN, List.length_cons, List.length_nil] at *; omega
  | n + 1, x :: a, y :: b => by
    have h1 := pairsL_le n a (y :: b)
    have h2 := pairsL_le n (x :: a) b
    have h3 := pairsL_le n a b
    simp only [pairsN, List.length_cons] at *
    cases klt x.key y.key <;> cases klt y.key x.key <;> simp only [cond_true, cond_false, List.length_cons] <;> omega
theorem pairsL_nil : pairsL [] [] = [] := rfl
theorem pairsL_a (x : Ent) (a : List Ent) : pairsL (x :: a) [] = (x, Ent.zero) :: pairsL a [] := by
  unfold pairsL; rw [show (x :: a).length + ([] : List Ent).length = (a.length + ([] : List Ent).length) + 1 from by simp]; rfl
theorem pairsL_b (y : Ent) (b : List Ent) : pairsL [] (y :: b) = (Ent.zero, y) :: pairsL [] b := by
  unfold pairsL; rw [show ([] : List Ent).length + (y :: b).length = (([] : List Ent).length + b.length) + 1 from by simp]; rfl
theorem pairsL_c (x y : Ent) (a b : List Ent) : pairsL (x :: a) (y :: b) = cond (klt x.key y.key) ((x, Ent.zero) :: pairsL a (y :: b)) (cond (klt y.key x.key) ((Ent.zero, y) :: pairsL (x :: a) b) ((x, y) :: pairsL a b)) := by
  have e : pairsL (x :: a) (y :: b) = pairsN (a.length + b.length + 1 + 1) (x :: a) (y :: b) := by
    unfold pairsL; congr 1; simp; omega
  rw [e, pairsN]
  have h1 := pairsN_eq a (y :: b) 0
  have h2 := pairsN_eq (x :: a) b 0
  have h3 := pairsN_eq a b 1
  simp only [List.length_cons, Nat.add_zero] at h1 h2 h3
  rw [show a.length + b.length + 1 = a.length + (b.length + 1) from by omega, h1, show a.length + (b.length + 1) = a.length + 1 + b.length from by omega, h2, show a.length + 1 + b.length = a.length + b.length + 1 from by omega, h3]
theorem getD_some {A : List Ent} {i : Nat} (h : i < A.length) : A[i]? = some (A.getD i Ent.zero) := by simp [List.getD_eq_getElem?_getD, h]
theorem drop_getD {A : List Ent} {i : Nat} (h : i < A.length) : A.drop i = A.getD i Ent.zero :: A.drop (i + 1) := by
  rw [List.drop_eq_getElem_cons h]; simp [List.getD_eq_getElem?_getD, h]
section
variable {A B : List Ent} {i j : Nat}
theorem pairs_x (hi : i < A.length) (h : j = B.length ∨ (j < B.length ∧ klt (A.getD i Ent.zero).key (B.getD j Ent.zero).key = true)) (hj : j ≤ B.length) :
    pairsL (A.drop i) (B.drop j) = (A.getD i Ent.zero, Ent.zero) :: pairsL (A.drop (i + 1)) (B.drop j) := by
  rcases h with rfl | ⟨h, hk⟩
  · rw [drop_getD hi, List.drop_length, pairsL_a]
  · rw [drop_getD hi, drop_getD h, pairsL_c, hk]; rfl
theorem pairs_y (hj : j < B.length) (h : i = A.length ∨ (i < A.length ∧ klt (A.getD i Ent.zero).key (B.getD j Ent.zero).key = false ∧ klt (B.getD j Ent.zero).key (A.getD i Ent.zero).key = true)) :
    pairsL (A.drop i) (B.drop j) = (Ent.zero, B.getD j Ent.zero) :: pairsL (A.drop i) (B.drop (j + 1)) := by
  rcases h with rfl | ⟨h, hk, hk2⟩
  · rw [drop_getD hj, List.drop_length, pairsL_b]
  · rw [drop_getD hj, drop_getD h, pairsL_c, hk, hk2]; rfl
theorem pairs_xy (hi : i < A.length) (hj : j < B.length) (hk : klt (A.getD i Ent.zero).key (B.getD j Ent.zero).key = false) (hk2 : klt (B.getD j Ent.zero).key (A.getD i Ent.zero).key = false) :
    pairsL (A.drop i) (B.drop j) = (A.getD i Ent.zero, B.getD j Ent.zero) :: pairsL (A.drop (i + 1)) (B.drop (j + 1)) := by
  rw [drop_getD hi, drop_getD hj, pairsL_c, hk, hk2]; rfl
end
structure PairsNd (g1 g2 : Nat) (ba bb : Option Addr) (ca cb : Nat) (A B : List Ent) (W : World) : Prop where
  b1 : Blk W g1 22 #[.slice ba A.length ca]
  b2 : Blk W g2 22 #[.slice bb B.length cb]
  ia : InS W ba (entCells A)
  ib : InS W bb (entCells B)
theorem PairsNd.of_ext {g1 g2 : Nat} {ba bb : Option Addr} {ca cb : Nat} {A B : List Ent} {W W' : World} (h : PairsNd g1 g2 ba bb ca cb A B W) (hx : Ext [] W W') : PairsNd g1 g2 ba bb ca cb A B W' := ⟨h.b1.ext hx (by simp), h.b2.ext hx (by simp), h.ia.ext0 hx, h.ib.ext0 hx⟩
theorem inc_i {n m : Nat} (h : n < m) (hm : m < 1000000) : IntKind.i64.wrap (((n : Nat) : Int) + 1) = ((n + 1 : Nat) : Int) := inc_w (by omega)
theorem pairs_it {g1 g2 : Nat} {ba bb : Option Addr} {ca cb : Nat} {A B : List Ent} (hA : A.length < 1000000) (hB : B.length < 1000000) :
    Iter Tryd.prog 152 [.pointer (some ⟨g1, 0, none⟩), .pointer (some ⟨g2, 0, none⟩)] (fun p : Ent × Ent => [p.1.v, p.2.v]) (pairsL A B) (PairsNd g1 g2 ba bb ca cb A B) := by
  intro l J Jx w hl hJ hJx hNd hNdx hY hj
  have st := St.init w []
  refine CR_enter Tryd.func152 rfl Tryd.ntmps152 rfl ?_
  refine W_scope <| W_seq <| W_region ?_
  let a1 : Value := .pointer (some ⟨g1, 0, none⟩)
  let a2 : Value := .pointer (some ⟨g2, 0, none⟩)
  refine RP_sg 2 [.p (.int .i64 0), .p (.int .i64 0)] [(0, .func (.yield l) #[] #[]), (1, a1), (2, a2), (4, .int .i64 0), (5, .int .i64 0)] trivial ?_
  refine RP_nil <| n_then <| W_seq <| W_label <| n_then <| W_block <| W_loop (fun k_ m_ w_ => ∃ (i j : Nat) (pre : List (Ent × Ent)), (A.length - i) + (B.length - j) = k_ ∧ m_ = [(0, .func (.yield l) #[] #[]), (1, a1), (2, a2), (4, .int .i64 ((i : Nat) : Int)), (5, .int .i64 ((j : Nat) : Int))] ∧ J pre w_ ∧ i ≤ A.length ∧ j ≤ B.length ∧ pre ++ pairsL (A.drop i) (B.drop j) = pairsL A B) ⟨0, 0, [], rfl, rfl, ((hJ _) _ _ hj (Grow.of_ext st.ext)), Nat.zero_le _, Nat.zero_le _, rfl⟩ ?_
  rintro _ _ w4 ⟨i, j, pre, rfl, rfl, hj, hil, hjl, hpre⟩
  have st3 := St.init w4 []
  have hp := hNd _ _ hj
  refine W_block <| W_seq <| W_region <| RP_e rfl (ef_alloc st3 zero_61 rfl) ?_
  rintro _ w5 ⟨gx, rfl, hgx, hgx', st6, hx7⟩
  replace st6 : St [] w4 w5 [(gx, 61, [.string (⟨#[]⟩ : ByteArray), .int .i64 0, .int .i64 0, .string (⟨#[]⟩ : ByteArray), .bool false])] := st6
  refine RP_e rfl (ef_alloc st6 zero_61 rfl) ?_
  rintro _ w8 ⟨gy, rfl, hgy, hgy', st9, hx10⟩
  replace st9 : St [] w4 w8 [(gy, 61, [.string (⟨#[]⟩ : ByteArray), .int .i64 0, .int .i64 0, .string (⟨#[]⟩ : ByteArray), .bool false]), (gx, 61, [.string (⟨#[]⟩ : ByteArray), .int .i64 0, .int .i64 0, .string (⟨#[]⟩ : ByteArray), .bool false])] := st9
  let a11 : Value := .pointer (some ⟨gx, 0, none⟩)
  let a12 : Value := .pointer (some ⟨gy, 0, none⟩)
  refine RP_pk [(0, .func (.yield l) #[] #[]), (1, a1), (2, a2), (4, .int .i64 ((i : Nat) : Int)), (5, .int .i64 ((j : Nat) : Int)), (6, a11), (7, a12)] ?_
  refine RP_nil <| n_then <| W_seq <| W_block <| W_seq <| W_region <| RP_sg 5 [.p (.int .i64 ((i : Nat) : Int)), .l 22 a1 (.slice ba A.length ca), .p (.int .i64 ((A.length : Nat) : Int)), .p (.bool (((i : Nat) : Int) == ((A.length : Nat) : Int))), .p (.bool (((i : Nat) : Int) == ((A.length : Nat) : Int)))] [(0, .func (.yield l) #[] #[]), (1, a1), (2, a2), (4, .int .i64 ((i : Nat) : Int)), (5, .int .i64 ((j : Nat) : Int)), (6, a11), (7, a12), (25, .bool (((i : Nat) : Int) == ((A.length : Nat) : Int)))] ⟨ld1b (hp.b1.ext st9.ext List.not_mem_nil) nagg_22 rfl, trivial⟩ ?_
  rcases Bool.eq_false_or_eq_true (((i : Nat) : Int) == ((A.length : Nat) : Int)) with c25_13 | c25_13
  ·
   try have c25_13p := eq_of_beq c25_13
   refine RP_at (m' := [(0, .func (.yield l) #[] #[]), (1, a1), (2, a2), (4, .int .i64 ((i : Nat) : Int)), (5, .int .i64 ((j : Nat) : Int)), (6, a11), (7, a12), (25, .bool true)]) (by rw [c25_13]) ?_
   refine RP_sg 6 [.p (.int .i64 ((j : Nat) : Int)), .l 22 a2 (.slice bb B.length cb), .p (.int .i64 ((B.length : Nat) : Int)), .p (.bool (((j : Nat) : Int) == ((B.length : Nat) : Int))), .p (.bool (((j : Nat) : Int) == ((B.length : Nat) : Int))), .p (.bool (((j : Nat) : Int) == ((B.length : Nat) : Int)))] [(0, .func (.yield l) #[] #[]), (1, a1), (2, a2), (4, .int .i64 ((i : Nat) : Int)), (5, .int .i64 ((j : Nat) : Int)), (6, a11), (7, a12), (20, .bool (((j : Nat) : Int) == ((B.length : Nat) : Int)))] ⟨ld1b (hp.b2.ext st9.ext List.not_mem_nil) nagg_22 rfl, trivial⟩ ?_
   refine RP_nil <| n_then <| W_cond rfl (fun c20_14 => ?_) (fun c20_14 => ?_)
   ·
    try have c20_14p := eq_of_beq c20_14
    refine W_exit ?_
    refine e_on rfl <| e_then <| e_on rfl <| e_loop <| e_here ?_
    refine n_scope ?_
    have hfin : pre = pairsL A B := by rw [← hpre, show i = A.length by omega, show j = B.length by omega, List.drop_length, List.drop_length, pairsL_nil, List.append_nil]
    refine end_of (P := Tryd.prog) (fn := Tryd.f152) (m := [(0, .func (.yield l) #[] #[]), (1, .pointer (some ⟨g1, 0, none⟩)), (2, .pointer (some ⟨g2, 0, none⟩)), (4, .int .i64 ((i : Nat) : Int)), (5, .int .i64 ((j : Nat) : Int)), (6, .pointer (some ⟨gx, 0, none⟩)), (7, .pointer (some ⟨gy, 0, none⟩)), (20, .bool (((j : Nat) : Int) == ((B.length : Nat) : Int)))]) (w := w8) (res0 rfl ) ?_
    exact .inl (by rw [← hfin]; exact ((hJ _) _ _ hj (Grow.of_ext st9.ext)))
   ·
    try have c20_14p := ne_of_beq_false c20_14
    refine W_seq <| W_regionS ⟨(fun w' => Blk w' g1 22 [.slice ba A.length ca].toArray ∧ Blk w' g2 22 [.slice bb B.length cb].toArray ∧ InS w' ba (entCells A) ∧ InS w' bb (entCells B)), (fun _ => True)⟩ (.cons 1 0 (.cons 1 1 (.cons 1 2 (.cons 1 3 (.cons 1 4 (.cons 1 5 (.cons 1 6 (.cons 1 7 (.cons 1 8 (.cons 1 9 (.cons 1 10 (.cons 1 11 (.cons 1 12 (.cons 1 13 (.cons 1 14 (.cons 1 15 (.cons 1 16 (.cons 1 17 (.cons 1 18 (.cons 1 19 (.cons 1 20 (.cons 1 21 (.cons 1 22 (.cons 1 23 .nil)))))))))))))))))))))))) 24 (by kernel_rfl) (by kernel_rfl) ?_
    have st15 := st9.drew
    refine RS_sg 5 [.p (.int .i64 ((j : Nat) : Int)), .l 22 a2 (.slice bb B.length cb), .p (.int .i64 ((B.length : Nat) : Int)), .p (.bool (((j : Nat) : Int) == ((B.length : Nat) : Int))), .p (.bool (((j : Nat) : Int) == ((B.length : Nat) : Int)))] [(0, .func (.yield l) #[] #[]), (1, a1), (2, a2), (4, .int .i64 ((i : Nat) : Int)), (5, .int .i64 ((j : Nat) : Int)), (6, a11), (7, a12), (36, .bool (((j : Nat) : Int) == ((B.length : Nat) : Int)))] (⟨hp.b1.ext st15.ext List.not_mem_nil, hp.b2.ext st15.ext List.not_mem_nil, hp.ia.ext0 st15.ext, hp.ib.ext0 st15.ext⟩) (fun _ hS => ⟨ld1b (hS.2.1) nagg_22 rfl, trivial⟩) ?_
    refine RS_at (m' := [(0, .func (.yield l) #[] #[]), (1, a1), (2, a2), (4, .int .i64 ((i : Nat) : Int)), (5, .int .i64 ((j : Nat) : Int)), (6, a11), (7, a12), (36, .bool false)]) (by rw [c20_14]) ?_
    refine RS_sg 5 [.p (.int .i64 ((i : Nat) : Int)), .l 22 a1 (.slice ba A.length ca), .p (.int .i64 ((A.length : Nat) : Int)), .p (.bool (decide (((i : Nat) : Int) < ((A.length : Nat) : Int)))), .p (.bool (decide (((i : Nat) : Int) < ((A.length : Nat) : Int))))] [(0, .func (.yield l) #[] #[]), (1, a1), (2, a2), (4, .int .i64 ((i : Nat) : Int)), (5, .int .i64 ((j : Nat) : Int)), (6, a11), (7, a12), (36, .bool false), (41, .bool (decide (((i : Nat) : Int) < ((A.length : Nat) : Int))))] (⟨hp.b1.ext st15.ext List.not_mem_nil, hp.b2.ext st15.ext List.not_mem_nil, hp.ia.ext0 st15.ext, hp.ib.ext0 st15.ext⟩) (fun _ hS => ⟨ld1b (hS.1) nagg_22 rfl, trivial⟩) ?_
    rcases Bool.eq_false_or_eq_true (decide (((i : Nat) : Int) < ((A.length : Nat) : Int))) with c41_16 | c41_16
    ·
     have c41_16p := of_decide_eq_true c41_16
     refine RS_at (m' := [(0, .func (.yield l) #[] #[]), (1, a1), (2, a2), (4, .int .i64 ((i : Nat) : Int)), (5, .int .i64 ((j : Nat) : Int)), (6, a11), (7, a12), (36, .bool false), (41, .bool true)]) (by rw [c41_16]) ?_
     let a17 : Value := .slice ba A.length ca
     refine RS_sg 2 [.l 22 a1 a17, .p (.int .i64 ((i : Nat) : Int))] [(0, .func (.yield l) #[] #[]), (1, a1), (2, a2), (4, .int .i64 ((i : Nat) : Int)), (5, .int .i64 ((j : Nat) : Int)), (6, a11), (7, a12), (36, .bool false), (41, .bool true), (42, a17), (43, .int .i64 ((i : Nat) : Int))] (⟨hp.b1.ext st15.ext List.not_mem_nil, hp.b2.ext st15.ext List.not_mem_nil, hp.ia.ext0 st15.ext, hp.ib.ext0 st15.ext⟩) (fun _ hS => ⟨ld1b (hS.1) nagg_22 rfl, trivial⟩) ?_
     refine RS_gq rfl rfl rfl (⟨hp.b1.ext st15.ext List.not_mem_nil, hp.b2.ext st15.ext List.not_mem_nil, hp.ia.ext0 st15.ext, hp.ib.ext0 st15.ext⟩) (v := .pointer (some ⟨(sp ba), so ba + i * 5, none⟩)) (fun _ _ => ev_indexI idxEnt rfl rfl (hp.ia.some_ (by rw [entCells_len]; omega)) (by omega)) ?_
     let a18 : Value := .slice bb B.length cb
     refine RS_sg 4 [.p (.pointer (some ⟨(sp ba), so ba + i * 5, none⟩)), .l 9 (.pointer (some ⟨(sp ba), so ba + i * 5, none⟩)) (.string ((A.getD i Ent.zero).key)), .l 22 a2 a18, .p (.int .i64 ((j : Nat) : Int))] [(0, .func (.yield l) #[] #[]), (1, a1), (2, a2), (4, .int .i64 ((i : Nat) : Int)), (5, .int .i64 ((j : Nat) : Int)), (6, a11), (7, a12), (36, .bool false), (41, .bool true), (46, .string ((A.getD i Ent.zero).key)), (47, a18), (48, .int .i64 ((j : Nat) : Int))] (⟨hp.b1.ext st15.ext List.not_mem_nil, hp.b2.ext st15.ext List.not_mem_nil, hp.ia.ext0 st15.ext, hp.ib.ext0 st15.ext⟩) (fun _ hS => ⟨(InS.load1 nagg_9 (hS.2.2.1) (entCells_0 (getD_some (by omega)) rfl)), ld1b (hS.2.1) nagg_22 rfl, trivial⟩) ?_
     refine RS_gq rfl rfl rfl (⟨hp.b1.ext st15.ext List.not_mem_nil, hp.b2.ext st15.ext List.not_mem_nil, hp.ia.ext0 st15.ext, hp.ib.ext0 st15.ext⟩) (v := .pointer (some ⟨(sp bb), so bb + j * 5, none⟩)) (fun _ _ => ev_indexI idxEnt rfl rfl (hp.ib.some_ (by rw [entCells_len]; omega)) (by omega)) ?_
     refine RS_sg 6 [.p (.pointer (some ⟨(sp bb), so bb + j * 5, none⟩)), .l 9 (.pointer (some ⟨(sp bb), so bb + j * 5, none⟩)) (.string ((B.getD j Ent.zero).key)), .p (.bool (Op.bytesLess ((A.getD i Ent.zero).key).toList ((B.getD j Ent.zero).key).toList)), .p (.bool (Op.bytesLess ((A.getD i Ent.zero).key).toList ((B.getD j Ent.zero).key).toList)), .p (.bool (Op.bytesLess ((A.getD i Ent.zero).key).toList ((B.getD j Ent.zero).key).toList)), .p (.bool (Op.bytesLess ((A.getD i Ent.zero).key).toList ((B.getD j Ent.zero).key).toList))] [(0, .func (.yield l) #[] #[]), (1, a1), (2, a2), (4, .int .i64 ((i : Nat) : Int)), (5, .int .i64 ((j : Nat) : Int)), (6, a11), (7, a12), (31, .bool (Op.bytesLess ((A.getD i Ent.zero).key).toList ((B.getD j Ent.zero).key).toList))] (⟨hp.b1.ext st15.ext List.not_mem_nil, hp.b2.ext st15.ext List.not_mem_nil, hp.ia.ext0 st15.ext, hp.ib.ext0 st15.ext⟩) (fun _ hS => ⟨(InS.load1 nagg_9 (hS.2.2.2) (entCells_0 (getD_some (by omega)) rfl)), trivial⟩) ?_
     refine RS_nil <| n_then <| W_cond rfl (fun c31_19 => ?_) (fun c31_19 => ?_)
     ·
      refine W_seq <| W_region <| RP_sg 2 [.l 22 a1 a17, .p (.int .i64 ((i : Nat) : Int))] [(0, .func (.yield l) #[] #[]), (1, a1), (2, a2), (4, .int .i64 ((i : Nat) : Int)), (5, .int .i64 ((j : Nat) : Int)), (6, a11), (7, a12), (55, a17), (56, .int .i64 ((i : Nat) : Int))] ⟨ld1b (hp.b1.ext st15.ext List.not_mem_nil) nagg_22 rfl, trivial⟩ ?_
      refine RP_q rfl (v := .pointer (some ⟨(sp ba), so ba + i * 5, none⟩)) (ev_indexI idxEnt rfl rfl (hp.ia.some_ (by rw [entCells_len]; omega)) (by omega)) ?_
      let a20 : Value := .agg #[.string ((A.getD i Ent.zero).key), .int .i64 ((A.getD i Ent.zero).c), .int .i64 ((A.getD i Ent.zero).n), .string ((A.getD i Ent.zero).val), .bool ((A.getD i Ent.zero).dead)]
      refine RP_sg 1 [.l 61 (.pointer (some ⟨(sp ba), so ba + i * 5, none⟩)) a20] [(0, .func (.yield l) #[] #[]), (1, a1), (2, a2), (4, .int .i64 ((i : Nat) : Int)), (5, .int .i64 ((j : Nat) : Int)), (6, a11), (7, a12), (58, a20)] ⟨InS.loadN agg_61 (hp.ia.ext0 st15.ext) (entCells_at (getD_some (by omega))) rfl (by decide), trivial⟩ ?_
      refine RP_e rfl (ef_store st15 rfl rfl rfl size_61 1 rfl rfl rfl rfl (.inr hgx)) ?_
      rintro _ w21 ⟨rfl, st22, hx23⟩
      replace st22 : St [] w4 w21 [(gy, 61, [.string (⟨#[]⟩ : ByteArray), .int .i64 0, .int .i64 0, .string (⟨#[]⟩ : ByteArray), .bool false]), (gx, 61, [.string ((A.getD i Ent.zero).key), .int .i64 ((A.getD i Ent.zero).c), .int .i64 ((A.getD i Ent.zero).n), .string ((A.getD i Ent.zero).val), .bool ((A.getD i Ent.zero).dead)])] := st22
      refine RP_pk [(0, .func (.yield l) #[] #[]), (1, a1), (2, a2), (4, .int .i64 ((i : Nat) : Int)), (5, .int .i64 ((j : Nat) : Int)), (6, a11), (7, a12)] ?_
      refine RP_nil <| n_then <| W_region <| RP_sg 2 [.p (.int .i64 ((i : Nat) : Int)), .p (.int .i64 (IntKind.i64.wrap (((i : Nat) : Int) + 1)))] [(0, .func (.yield l) #[] #[]), (1, a1), (2, a2), (5, .int .i64 ((j : Nat) : Int)), (6, a11), (7, a12), (60, .int .i64 (IntKind.i64.wrap (((i : Nat) : Int) + 1)))] trivial ?_
      refine RP_at (m' := [(0, .func (.yield l) #[] #[]), (1, a1), (2, a2), (5, .int .i64 ((j : Nat) : Int)), (6, a11), (7, a12), (60, .int .i64 (((i + 1) : Nat) : Int))]) (by rw [inc_i (m := A.length) (by omega) hA]) ?_
      refine RP_sg 1 [.p (.int .i64 (((i + 1) : Nat) : Int))] [(0, .func (.yield l) #[] #[]), (1, a1), (2, a2), (4, .int .i64 (((i + 1) : Nat) : Int)), (5, .int .i64 ((j : Nat) : Int)), (6, a11), (7, a12)] trivial ?_
      refine RP_nil <| n_block <| n_then <| W_seq <| W_region ?_
      let a24 : Value := .agg #[.string (⟨#[]⟩ : ByteArray), .int .i64 0, .int .i64 0, .string (⟨#[]⟩ : ByteArray), .bool false]
      refine RP_sg 3 [.p (.func (.yield l) #[] #[]), .l 61 a11 a20, .l 61 a12 a24] [(0, .func (.yield l) #[] #[]), (1, a1), (2, a2), (4, .int .i64 (((i + 1) : Nat) : Int)), (5, .int .i64 ((j : Nat) : Int)), (85, .func (.yield l) #[] #[]), (86, a20), (87, a24)] ⟨ldN st22 agg_61 1 rfl rfl rfl, ldN st22 agg_61 0 rfl rfl rfl, trivial⟩ ?_
      have hstep : pairsL (A.drop i) (B.drop j) = ((A.getD i Ent.zero), Ent.zero) :: pairsL (A.drop (i + 1)) (B.drop j) := pairs_x (by omega) (.inr ⟨by omega, c31_19⟩) hjl
      have hpf : pre ++ [((A.getD i Ent.zero), Ent.zero)] <+: pairsL A B := by rw [← hpre, hstep]; exact ⟨_, by rw [List.append_assoc]; rfl⟩
      refine RP_y rfl (ef_yield (hY _ ((A.getD i Ent.zero), Ent.zero) _ ((hJ _) _ _ hj (Grow.of_ext st22.ext)) hpf) rfl rfl) ?_
      rintro _ w25 ⟨b_, rfl, -, hj⟩
      cases b_
      ·
       replace hj : Jx w25 := hj
       have st26 := St.init w25 []
       refine RP_sg 1 [.p (.bool true)] [(0, .func (.yield l) #[] #[]), (1, a1), (2, a2), (4, .int .i64 (((i + 1) : Nat) : Int)), (5, .int .i64 ((j : Nat) : Int)), (89, .bool true)] trivial ?_
       refine RP_nil <| n_then <| W_true rfl ?_
       refine W_ret <| r_block <| r_loop <| r_block <| r_scope ?_
       refine ret_of (P := Tryd.prog) (fn := Tryd.f152) (m := [(0, .func (.yield l) #[] #[]), (1, .pointer (some ⟨g1, 0, none⟩)), (2, .pointer (some ⟨g2, 0, none⟩)), (4, .int .i64 (((i + 1) : Nat) : Int)), (5, .int .i64 ((j : Nat) : Int)), (89, .bool true)]) (w := w25) (res0 rfl ) ?_
       exact .inr hj
      ·
       replace hj : J _ w25 := hj
       have st27 := St.init w25 []
       refine RP_sg 1 [.p (.bool false)] [(0, .func (.yield l) #[] #[]), (1, a1), (2, a2), (4, .int .i64 (((i + 1) : Nat) : Int)), (5, .int .i64 ((j : Nat) : Int)), (89, .bool false)] trivial ?_
       refine RP_nil <| n_then <| W_false rfl ?_
       refine W_pick [0, 1, 2, 4, 5] (by kernel_rfl : pick _ _ = some [(0, .func (.yield l) #[] #[]), (1, a1), (2, a2), (4, .int .i64 (((i + 1) : Nat) : Int)), (5, .int .i64 ((j : Nat) : Int))]) ?_
       refine W_skip <| n_block ?_
       exact ⟨_, by omega, (i + 1), j, (pre ++ [((A.getD i Ent.zero), Ent.zero)]), rfl, rfl, hj, by omega, by omega, by rw [← hpre, hstep, List.append_assoc]; rfl⟩
     ·
      refine W_seq <| W_regionS ⟨(fun w' => Blk w' g1 22 [a17].toArray), (fun _ => True)⟩ (.cons 1 0 (.cons 1 1 (.cons 1 2 (.cons 1 3 (.cons 1 4 (.cons 1 5 (.cons 1 6 (.cons 1 7 (.cons 1 8 (.cons 1 9 (.cons 1 10 (.cons 1 11 (.cons 1 12 (.cons 1 13 (.cons 1 14 (.cons 1 15 (.cons 1 16 (.cons 1 17 .nil)))))))))))))))))) 18 (by kernel_rfl) (by kernel_rfl) ?_
      have st28 := st15.drew
      refine RS_sg 5 [.p (.int .i64 ((i : Nat) : Int)), .l 22 a1 a17, .p (.int .i64 ((A.length : Nat) : Int)), .p (.bool (((i : Nat) : Int) == ((A.length : Nat) : Int))), .p (.bool (((i : Nat) : Int) == ((A.length : Nat) : Int)))] [(0, .func (.yield l) #[] #[]), (1, a1), (2, a2), (4, .int .i64 ((i : Nat) : Int)), (5, .int .i64 ((j : Nat) : Int)), (6, a11), (7, a12), (66, .bool (((i : Nat) : Int) == ((A.length : Nat) : Int)))] (hp.b1.ext st28.ext List.not_mem_nil) (fun _ hS => ⟨ld1b (hS) nagg_22 rfl, trivial⟩) ?_
      refine RS_at (m' := [(0, .func (.yield l) #[] #[]), (1, a1), (2, a2), (4, .int .i64 ((i : Nat) : Int)), (5, .int .i64 ((j : Nat) : Int)), (6, a11), (7, a12), (66, .bool true)]) (by rw [c25_13]) ?_
      refine RS_sg 13 [.no, .no, .no, .no, .no, .no, .no, .no, .no, .no, .no, .p (.bool true), .p (.bool true)] [(0, .func (.yield l) #[] #[]), (1, a1), (2, a2), (4, .int .i64 ((i : Nat) : Int)), (5, .int .i64 ((j : Nat) : Int)), (6, a11), (7, a12), (61, .bool true)] (hp.b1.ext st28.ext List.not_mem_nil) (fun _ hS => trivial) ?_
      refine RS_nil <| n_then <| W_true rfl ?_
      refine W_seq <| W_region <| RP_sg 2 [.l 22 a2 a18, .p (.int .i64 ((j : Nat) : Int))] [(0, .func (.yield l) #[] #[]), (1, a1), (2, a2), (4, .int .i64 ((i : Nat) : Int)), (5, .int .i64 ((j : Nat) : Int)), (6, a11), (7, a12), (79, a18), (80, .int .i64 ((j : Nat) : Int))] ⟨ld1b (hp.b2.ext st28.ext List.not_mem_nil) nagg_22 rfl, trivial⟩ ?_
      refine RP_q rfl (v := .pointer (some ⟨(sp bb), so bb + j * 5, none⟩)) (ev_indexI idxEnt rfl rfl (hp.ib.some_ (by rw [entCells_len]; omega)) (by omega)) ?_
      let a29 : Value := .agg #[.string ((B.getD j Ent.zero).key), .int .i64 ((B.getD j Ent.zero).c), .int .i64 ((B.getD j Ent.zero).n), .string ((B.getD j Ent.zero).val), .bool ((B.getD j Ent.zero).dead)]
      refine RP_sg 1 [.l 61 (.pointer (some ⟨(sp bb), so bb + j * 5, none⟩)) a29] [(0, .func (.yield l) #[] #[]), (1, a1), (2, a2), (4, .int .i64 ((i : Nat) : Int)), (5, .int .i64 ((j : Nat) : Int)), (6, a11), (7, a12), (82, a29)] ⟨InS.loadN agg_61 (hp.ib.ext0 st28.ext) (entCells_at (getD_some (by omega))) rfl (by decide), trivial⟩ ?_
      refine RP_e rfl (ef_store st28 rfl rfl rfl size_61 0 rfl rfl rfl rfl (.inr hgy)) ?_
      rintro _ w30 ⟨rfl, st31, hx32⟩
      replace st31 : St [] w4 w30 [(gy, 61, [.string ((B.getD j Ent.zero).key), .int .i64 ((B.getD j Ent.zero).c), .int .i64 ((B.getD j Ent.zero).n), .string ((B.getD j Ent.zero).val), .bool ((B.getD j Ent.zero).dead)]), (gx, 61, [.string (⟨#[]⟩ : ByteArray), .int .i64 0, .int .i64 0, .string (⟨#[]⟩ : ByteArray), .bool false])] := st31
      refine RP_pk [(0, .func (.yield l) #[] #[]), (1, a1), (2, a2), (4, .int .i64 ((i : Nat) : Int)), (5, .int .i64 ((j : Nat) : Int)), (6, a11), (7, a12)] ?_
      refine RP_nil <| n_then <| W_region <| RP_sg 2 [.p (.int .i64 ((j : Nat) : Int)), .p (.int .i64 (IntKind.i64.wrap (((j : Nat) : Int) + 1)))] [(0, .func (.yield l) #[] #[]), (1, a1), (2, a2), (4, .int .i64 ((i : Nat) : Int)), (6, a11), (7, a12), (84, .int .i64 (IntKind.i64.wrap (((j : Nat) : Int) + 1)))] trivial ?_
      refine RP_at (m' := [(0, .func (.yield l) #[] #[]), (1, a1), (2, a2), (4, .int .i64 ((i : Nat) : Int)), (6, a11), (7, a12), (84, .int .i64 (((j + 1) : Nat) : Int))]) (by rw [inc_i (m := B.length) (by omega) hB]) ?_
      refine RP_sg 1 [.p (.int .i64 (((j + 1) : Nat) : Int))] [(0, .func (.yield l) #[] #[]), (1, a1), (2, a2), (4, .int .i64 ((i : Nat) : Int)), (5, .int .i64 (((j + 1) : Nat) : Int)), (6, a11), (7, a12)] trivial ?_
      refine RP_nil <| n_block <| n_then <| W_seq <| W_region ?_
      let a33 : Value := .agg #[.string (⟨#[]⟩ : ByteArray), .int .i64 0, .int .i64 0, .string (⟨#[]⟩ : ByteArray), .bool false]
      refine RP_sg 3 [.p (.func (.yield l) #[] #[]), .l 61 a11 a33, .l 61 a12 a29] [(0, .func (.yield l) #[] #[]), (1, a1), (2, a2), (4, .int .i64 ((i : Nat) : Int)), (5, .int .i64 (((j + 1) : Nat) : Int)), (85, .func (.yield l) #[] #[]), (86, a33), (87, a29)] ⟨ldN st31 agg_61 1 rfl rfl rfl, ldN st31 agg_61 0 rfl rfl rfl, trivial⟩ ?_
      have hstep : pairsL (A.drop i) (B.drop j) = (Ent.zero, (B.getD j Ent.zero)) :: pairsL (A.drop i) (B.drop (j + 1)) := pairs_y (by omega) (.inl (by omega))
      have hpf : pre ++ [(Ent.zero, (B.getD j Ent.zero))] <+: pairsL A B := by rw [← hpre, hstep]; exact ⟨_, by rw [List.append_assoc]; rfl⟩
      refine RP_y rfl (ef_yield (hY _ (Ent.zero, (B.getD j Ent.zero)) _ ((hJ _) _ _ hj (Grow.of_ext st31.ext)) hpf) rfl rfl) ?_
      rintro _ w34 ⟨b_, rfl, -, hj⟩
      cases b_
      ·
       replace hj : Jx w34 := hj
       have st35 := St.init w34 []
       refine RP_sg 1 [.p (.bool true)] [(0, .func (.yield l) #[] #[]), (1, a1), (2, a2), (4, .int .i64 ((i : Nat) : Int)), (5, .int .i64 (((j + 1) : Nat) : Int)), (89, .bool true)] trivial ?_
       refine RP_nil <| n_then <| W_true rfl ?_
       refine W_ret <| r_block <| r_loop <| r_block <| r_scope ?_
       refine ret_of (P := Tryd.prog) (fn := Tryd.f152) (m := [(0, .func (.yield l) #[] #[]), (1, .pointer (some ⟨g1, 0, none⟩)), (2, .pointer (some ⟨g2, 0, none⟩)), (4, .int .i64 ((i : Nat) : Int)), (5, .int .i64 (((j + 1) : Nat) : Int)), (89, .bool true)]) (w := w34) (res0 rfl ) ?_
       exact .inr hj
      ·
       replace hj : J _ w34 := hj
       have st36 := St.init w34 []
       refine RP_sg 1 [.p (.bool false)] [(0, .func (.yield l) #[] #[]), (1, a1), (2, a2), (4, .int .i64 ((i : Nat) : Int)), (5, .int .i64 (((j + 1) : Nat) : Int)), (89, .bool false)] trivial ?_
       refine RP_nil <| n_then <| W_false rfl ?_
       refine W_pick [0, 1, 2, 4, 5] (by kernel_rfl : pick _ _ = some [(0, .func (.yield l) #[] #[]), (1, a1), (2, a2), (4, .int .i64 ((i : Nat) : Int)), (5, .int .i64 (((j + 1) : Nat) : Int))]) ?_
       refine W_skip <| n_block ?_
       exact ⟨_, by omega, i, (j + 1), (pre ++ [(Ent.zero, (B.getD j Ent.zero))]), rfl, rfl, hj, by omega, by omega, by rw [← hpre, hstep, List.append_assoc]; rfl⟩
    ·
     have c41_16p := of_decide_eq_false c41_16
     refine RS_at (m' := [(0, .func (.yield l) #[] #[]), (1, a1), (2, a2), (4, .int .i64 ((i : Nat) : Int)), (5, .int .i64 ((j : Nat) : Int)), (6, a11), (7, a12), (36, .bool false), (41, .bool false)]) (by rw [c41_16]) ?_
     refine RS_sg 14 [.no, .no, .no, .no, .no, .no, .no, .no, .no, .no, .no, .p (.bool false), .p (.bool false), .p (.bool false)] [(0, .func (.yield l) #[] #[]), (1, a1), (2, a2), (4, .int .i64 ((i : Nat) : Int)), (5, .int .i64 ((j : Nat) : Int)), (6, a11), (7, a12), (31, .bool false)] (⟨hp.b1.ext st15.ext List.not_mem_nil, hp.b2.ext st15.ext List.not_mem_nil, hp.ia.ext0 st15.ext, hp.ib.ext0 st15.ext⟩) (fun _ hS => trivial) ?_
     refine RS_nil <| n_then <| W_false rfl ?_
     refine W_seq <| W_regionS ⟨(fun w' => Blk w' g1 22 [.slice ba A.length ca].toArray), (fun _ => True)⟩ (.cons 1 0 (.cons 1 1 (.cons 1 2 (.cons 1 3 (.cons 1 4 (.cons 1 5 (.cons 1 6 (.cons 1 7 (.cons 1 8 (.cons 1 9 (.cons 1 10 (.cons 1 11 (.cons 1 12 (.cons 1 13 (.cons 1 14 (.cons 1 15 (.cons 1 16 (.cons 1 17 .nil)))))))))))))))))) 18 (by kernel_rfl) (by kernel_rfl) ?_
     have st37 := st15.drew
     refine RS_sg 5 [.p (.int .i64 ((i : Nat) : Int)), .l 22 a1 (.slice ba A.length ca), .p (.int .i64 ((A.length : Nat) : Int)), .p (.bool (((i : Nat) : Int) == ((A.length : Nat) : Int))), .p (.bool (((i : Nat) : Int) == ((A.length : Nat) : Int)))] [(0, .func (.yield l) #[] #[]), (1, a1), (2, a2), (4, .int .i64 ((i : Nat) : Int)), (5, .int .i64 ((j : Nat) : Int)), (6, a11), (7, a12), (66, .bool (((i : Nat) : Int) == ((A.length : Nat) : Int)))] (hp.b1.ext st37.ext List.not_mem_nil) (fun _ hS => ⟨ld1b (hS) nagg_22 rfl, trivial⟩) ?_
     refine RS_at (m' := [(0, .func (.yield l) #[] #[]), (1, a1), (2, a2), (4, .int .i64 ((i : Nat) : Int)), (5, .int .i64 ((j : Nat) : Int)), (6, a11), (7, a12), (66, .bool true)]) (by rw [c25_13]) ?_
     refine RS_sg 13 [.no, .no, .no, .no, .no, .no, .no, .no, .no, .no, .no, .p (.bool true), .p (.bool true)] [(0, .func (.yield l) #[] #[]), (1, a1), (2, a2), (4, .int .i64 ((i : Nat) : Int)), (5, .int .i64 ((j : Nat) : Int)), (6, a11), (7, a12), (61, .bool true)] (hp.b1.ext st37.ext List.not_mem_nil) (fun _ hS => trivial) ?_
     refine RS_nil <| n_then <| W_true rfl ?_
     refine W_seq <| W_region ?_
     let a38 : Value := .slice bb B.length cb
     refine RP_sg 2 [.l 22 a2 a38, .p (.int .i64 ((j : Nat) : Int))] [(0, .func (.yield l) #[] #[]), (1, a1), (2, a2), (4, .int .i64 ((i : Nat) : Int)), (5, .int .i64 ((j : Nat) : Int)), (6, a11), (7, a12), (79, a38), (80, .int .i64 ((j : Nat) : Int))] ⟨ld1b (hp.b2.ext st37.ext List.not_mem_nil) nagg_22 rfl, trivial⟩ ?_
     refine RP_q rfl (v := .pointer (some ⟨(sp bb), so bb + j * 5, none⟩)) (ev_indexI idxEnt rfl rfl (hp.ib.some_ (by rw [entCells_len]; omega)) (by omega)) ?_
     let a39 : Value := .agg #[.string ((B.getD j Ent.zero).key), .int .i64 ((B.getD j Ent.zero).c), .int .i64 ((B.getD j Ent.zero).n), .string ((B.getD j Ent.zero).val), .bool ((B.getD j Ent.zero).dead)]
     refine RP_sg 1 [.l 61 (.pointer (some ⟨(sp bb), so bb + j * 5, none⟩)) a39] [(0, .func (.yield l) #[] #[]), (1, a1), (2, a2), (4, .int .i64 ((i : Nat) : Int)), (5, .int .i64 ((j : Nat) : Int)), (6, a11), (7, a12), (82, a39)] ⟨InS.loadN agg_61 (hp.ib.ext0 st37.ext) (entCells_at (getD_some (by omega))) rfl (by decide), trivial⟩ ?_
     refine RP_e rfl (ef_store st37 rfl rfl rfl size_61 0 rfl rfl rfl rfl (.inr hgy)) ?_
     rintro _ w40 ⟨rfl, st41, hx42⟩
     replace st41 : St [] w4 w40 [(gy, 61, [.string ((B.getD j Ent.zero).key), .int .i64 ((B.getD j Ent.zero).c), .int .i64 ((B.getD j Ent.zero).n), .string ((B.getD j Ent.zero).val), .bool ((B.getD j Ent.zero).dead)]), (gx, 61, [.string (⟨#[]⟩ : ByteArray), .int .i64 0, .int .i64 0, .string (⟨#[]⟩ : ByteArray), .bool false])] := st41
     refine RP_pk [(0, .func (.yield l) #[] #[]), (1, a1), (2, a2), (4, .int .i64 ((i : Nat) : Int)), (5, .int .i64 ((j : Nat) : Int)), (6, a11), (7, a12)] ?_
     refine RP_nil <| n_then <| W_region <| RP_sg 2 [.p (.int .i64 ((j : Nat) : Int)), .p (.int .i64 (IntKind.i64.wrap (((j : Nat) : Int) + 1)))] [(0, .func (.yield l) #[] #[]), (1, a1), (2, a2), (4, .int .i64 ((i : Nat) : Int)), (6, a11), (7, a12), (84, .int .i64 (IntKind.i64.wrap (((j : Nat) : Int) + 1)))] trivial ?_
     refine RP_at (m' := [(0, .func (.yield l) #[] #[]), (1, a1), (2, a2), (4, .int .i64 ((i : Nat) : Int)), (6, a11), (7, a12), (84, .int .i64 (((j + 1) : Nat) : Int))]) (by rw [inc_i (m := B.length) (by omega) hB]) ?_
     refine RP_sg 1 [.p (.int .i64 (((j + 1) : Nat) : Int))] [(0, .func (.yield l) #[] #[]), (1, a1), (2, a2), (4, .int .i64 ((i : Nat) : Int)), (5, .int .i64 (((j + 1) : Nat) : Int)), (6, a11), (7, a12)] trivial ?_
     refine RP_nil <| n_block <| n_then <| W_seq <| W_region ?_
     let a43 : Value := .agg #[.string (⟨#[]⟩ : ByteArray), .int .i64 0, .int .i64 0, .string (⟨#[]⟩ : ByteArray), .bool false]
     refine RP_sg 3 [.p (.func (.yield l) #[] #[]), .l 61 a11 a43, .l 61 a12 a39] [(0, .func (.yield l) #[] #[]), (1, a1), (2, a2), (4, .int .i64 ((i : Nat) : Int)), (5, .int .i64 (((j + 1) : Nat) : Int)), (85, .func (.yield l) #[] #[]), (86, a43), (87, a39)] ⟨ldN st41 agg_61 1 rfl rfl rfl, ldN st41 agg_61 0 rfl rfl rfl, trivial⟩ ?_
     have hstep : pairsL (A.drop i) (B.drop j) = (Ent.zero, (B.getD j Ent.zero)) :: pairsL (A.drop i) (B.drop (j + 1)) := pairs_y (by omega) (.inl (by omega))
     have hpf : pre ++ [(Ent.zero, (B.getD j Ent.zero))] <+: pairsL A B := by rw [← hpre, hstep]; exact ⟨_, by rw [List.append_assoc]; rfl⟩
     refine RP_y rfl (ef_yield (hY _ (Ent.zero, (B.getD j Ent.zero)) _ ((hJ _) _ _ hj (Grow.of_ext st41.ext)) hpf) rfl rfl) ?_
     rintro _ w44 ⟨b_, rfl, -, hj⟩
     cases b_
     ·
      replace hj : Jx w44 := hj
      have st45 := St.init w44 []
      refine RP_sg 1 [.p (.bool true)] [(0, .func (.yield l) #[] #[]), (1, a1), (2, a2), (4, .int .i64 ((i : Nat) : Int)), (5, .int .i64 (((j + 1) : Nat) : Int)), (89, .bool true)] trivial ?_
      refine RP_nil <| n_then <| W_true rfl ?_
      refine W_ret <| r_block <| r_loop <| r_block <| r_scope ?_
      refine ret_of (P := Tryd.prog) (fn := Tryd.f152) (m := [(0, .func (.yield l) #[] #[]), (1, .pointer (some ⟨g1, 0, none⟩)), (2, .pointer (some ⟨g2, 0, none⟩)), (4, .int .i64 ((i : Nat) : Int)), (5, .int .i64 (((j + 1) : Nat) : Int)), (89, .bool true)]) (w := w44) (res0 rfl ) ?_
      exact .inr hj
     ·
      replace hj : J _ w44 := hj
      have st46 := St.init w44 []
      refine RP_sg 1 [.p (.bool false)] [(0, .func (.yield l) #[] #[]), (1, a1), (2, a2), (4, .int .i64 ((i : Nat) : Int)), (5, .int .i64 (((j + 1) : Nat) : Int)), (89, .bool false)] trivial ?_
      refine RP_nil <| n_then <| W_false rfl ?_
      refine W_pick [0, 1, 2, 4, 5] (by kernel_rfl : pick _ _ = some [(0, .func (.yield l) #[] #[]), (1, a1), (2, a2), (4, .int .i64 ((i : Nat) : Int)), (5, .int .i64 (((j + 1) : Nat) : Int))]) ?_
      refine W_skip <| n_block ?_
      exact ⟨_, by omega, i, (j + 1), (pre ++ [(Ent.zero, (B.getD j Ent.zero))]), rfl, rfl, hj, by omega, by omega, by rw [← hpre, hstep, List.append_assoc]; rfl⟩
  ·
   try have c25_13p := ne_of_beq_false c25_13
   refine RP_at (m' := [(0, .func (.yield l) #[] #[]), (1, a1), (2, a2), (4, .int .i64 ((i : Nat) : Int)), (5, .int .i64 ((j : Nat) : Int)), (6, a11), (7, a12), (25, .bool false)]) (by rw [c25_13]) ?_
   refine RP_sg 6 [.no, .no, .no, .no, .p (.bool false), .p (.bool false)] [(0, .func (.yield l) #[] #[]), (1, a1), (2, a2), (4, .int .i64 ((i : Nat) : Int)), (5, .int .i64 ((j : Nat) : Int)), (6, a11), (7, a12), (20, .bool false)] trivial ?_
   refine RP_nil <| n_then <| W_false rfl ?_
   refine W_seq <| W_regionS ⟨(fun w' => Blk w' g1 22 [.slice ba A.length ca].toArray ∧ Blk w' g2 22 [.slice bb B.length cb].toArray ∧ InS w' ba (entCells A) ∧ InS w' bb (entCells B)), (fun _ => True)⟩ (.cons 1 0 (.cons 1 1 (.cons 1 2 (.cons 1 3 (.cons 1 4 (.cons 1 5 (.cons 1 6 (.cons 1 7 (.cons 1 8 (.cons 1 9 (.cons 1 10 (.cons 1 11 (.cons 1 12 (.cons 1 13 (.cons 1 14 (.cons 1 15 (.cons 1 16 (.cons 1 17 (.cons 1 18 (.cons 1 19 (.cons 1 20 (.cons 1 21 (.cons 1 22 (.cons 1 23 .nil)))))))))))))))))))))))) 24 (by kernel_rfl) (by kernel_rfl) ?_
   have st47 := st9.drew
   refine RS_sg 5 [.p (.int .i64 ((j : Nat) : Int)), .l 22 a2 (.slice bb B.length cb), .p (.int .i64 ((B.length : Nat) : Int)), .p (.bool (((j : Nat) : Int) == ((B.length : Nat) : Int))), .p (.bool (((j : Nat) : Int) == ((B.length : Nat) : Int)))] [(0, .func (.yield l) #[] #[]), (1, a1), (2, a2), (4, .int .i64 ((i : Nat) : Int)), (5, .int .i64 ((j : Nat) : Int)), (6, a11), (7, a12), (36, .bool (((j : Nat) : Int) == ((B.length : Nat) : Int)))] (⟨hp.b1.ext st47.ext List.not_mem_nil, hp.b2.ext st47.ext List.not_mem_nil, hp.ia.ext0 st47.ext, hp.ib.ext0 st47.ext⟩) (fun _ hS => ⟨ld1b (hS.2.1) nagg_22 rfl, trivial⟩) ?_
   rcases Bool.eq_false_or_eq_true (((j : Nat) : Int) == ((B.length : Nat) : Int)) with c36_48 | c36_48
   ·
    try have c36_48p := eq_of_beq c36_48
    refine RS_at (m' := [(0, .func (.yield l) #[] #[]), (1, a1), (2, a2), (4, .int .i64 ((i : Nat) : Int)), (5, .int .i64 ((j : Nat) : Int)), (6, a11), (7, a12), (36, .bool true)]) (by rw [c36_48]) ?_
    refine RS_sg 19 [.no, .no, .no, .no, .no, .no, .no, .no, .no, .no, .no, .no, .no, .no, .no, .no, .no, .p (.bool true), .p (.bool true)] [(0, .func (.yield l) #[] #[]), (1, a1), (2, a2), (4, .int .i64 ((i : Nat) : Int)), (5, .int .i64 ((j : Nat) : Int)), (6, a11), (7, a12), (31, .bool true)] (⟨hp.b1.ext st47.ext List.not_mem_nil, hp.b2.ext st47.ext List.not_mem_nil, hp.ia.ext0 st47.ext, hp.ib.ext0 st47.ext⟩) (fun _ hS => trivial) ?_
    refine RS_nil <| n_then <| W_true rfl ?_
    refine W_seq <| W_region ?_
    let a49 : Value := .slice ba A.length ca
    refine RP_sg 2 [.l 22 a1 a49, .p (.int .i64 ((i : Nat) : Int))] [(0, .func (.yield l) #[] #[]), (1, a1), (2, a2), (4, .int .i64 ((i : Nat) : Int)), (5, .int .i64 ((j : Nat) : Int)), (6, a11), (7, a12), (55, a49), (56, .int .i64 ((i : Nat) : Int))] ⟨ld1b (hp.b1.ext st47.ext List.not_mem_nil) nagg_22 rfl, trivial⟩ ?_
    refine RP_q rfl (v := .pointer (some ⟨(sp ba), so ba + i * 5, none⟩)) (ev_indexI idxEnt rfl rfl (hp.ia.some_ (by rw [entCells_len]; omega)) (by omega)) ?_
    let a50 : Value := .agg #[.string ((A.getD i Ent.zero).key), .int .i64 ((A.getD i Ent.zero).c), .int .i64 ((A.getD i Ent.zero).n), .string ((A.getD i Ent.zero).val), .bool ((A.getD i Ent.zero).dead)]
    refine RP_sg 1 [.l 61 (.pointer (some ⟨(sp ba), so ba + i * 5, none⟩)) a50] [(0, .func (.yield l) #[] #[]), (1, a1), (2, a2), (4, .int .i64 ((i : Nat) : Int)), (5, .int .i64 ((j : Nat) : Int)), (6, a11), (7, a12), (58, a50)] ⟨InS.loadN agg_61 (hp.ia.ext0 st47.ext) (entCells_at (getD_some (by omega))) rfl (by decide), trivial⟩ ?_
    refine RP_e rfl (ef_store st47 rfl rfl rfl size_61 1 rfl rfl rfl rfl (.inr hgx)) ?_
    rintro _ w51 ⟨rfl, st52, hx53⟩
    replace st52 : St [] w4 w51 [(gy, 61, [.string (⟨#[]⟩ : ByteArray), .int .i64 0, .int .i64 0, .string (⟨#[]⟩ : ByteArray), .bool false]), (gx, 61, [.string ((A.getD i Ent.zero).key), .int .i64 ((A.getD i Ent.zero).c), .int .i64 ((A.getD i Ent.zero).n), .string ((A.getD i Ent.zero).val), .bool ((A.getD i Ent.zero).dead)])] := st52
    refine RP_pk [(0, .func (.yield l) #[] #[]), (1, a1), (2, a2), (4, .int .i64 ((i : Nat) : Int)), (5, .int .i64 ((j : Nat) : Int)), (6, a11), (7, a12)] ?_
    refine RP_nil <| n_then <| W_region <| RP_sg 2 [.p (.int .i64 ((i : Nat) : Int)), .p (.int .i64 (IntKind.i64.wrap (((i : Nat) : Int) + 1)))] [(0, .func (.yield l) #[] #[]), (1, a1), (2, a2), (5, .int .i64 ((j : Nat) : Int)), (6, a11), (7, a12), (60, .int .i64 (IntKind.i64.wrap (((i : Nat) : Int) + 1)))] trivial ?_
    refine RP_at (m' := [(0, .func (.yield l) #[] #[]), (1, a1), (2, a2), (5, .int .i64 ((j : Nat) : Int)), (6, a11), (7, a12), (60, .int .i64 (((i + 1) : Nat) : Int))]) (by rw [inc_i (m := A.length) (by omega) hA]) ?_
    refine RP_sg 1 [.p (.int .i64 (((i + 1) : Nat) : Int))] [(0, .func (.yield l) #[] #[]), (1, a1), (2, a2), (4, .int .i64 (((i + 1) : Nat) : Int)), (5, .int .i64 ((j : Nat) : Int)), (6, a11), (7, a12)] trivial ?_
    refine RP_nil <| n_block <| n_then <| W_seq <| W_region ?_
    let a54 : Value := .agg #[.string (⟨#[]⟩ : ByteArray), .int .i64 0, .int .i64 0, .string (⟨#[]⟩ : ByteArray), .bool false]
    refine RP_sg 3 [.p (.func (.yield l) #[] #[]), .l 61 a11 a50, .l 61 a12 a54] [(0, .func (.yield l) #[] #[]), (1, a1), (2, a2), (4, .int .i64 (((i + 1) : Nat) : Int)), (5, .int .i64 ((j : Nat) : Int)), (85, .func (.yield l) #[] #[]), (86, a50), (87, a54)] ⟨ldN st52 agg_61 1 rfl rfl rfl, ldN st52 agg_61 0 rfl rfl rfl, trivial⟩ ?_
    have hstep : pairsL (A.drop i) (B.drop j) = ((A.getD i Ent.zero), Ent.zero) :: pairsL (A.drop (i + 1)) (B.drop j) := pairs_x (by omega) (.inl (by omega)) hjl
    have hpf : pre ++ [((A.getD i Ent.zero), Ent.zero)] <+: pairsL A B := by rw [← hpre, hstep]; exact ⟨_, by rw [List.append_assoc]; rfl⟩
    refine RP_y rfl (ef_yield (hY _ ((A.getD i Ent.zero), Ent.zero) _ ((hJ _) _ _ hj (Grow.of_ext st52.ext)) hpf) rfl rfl) ?_
    rintro _ w55 ⟨b_, rfl, -, hj⟩
    cases b_
    ·
     replace hj : Jx w55 := hj
     have st56 := St.init w55 []
     refine RP_sg 1 [.p (.bool true)] [(0, .func (.yield l) #[] #[]), (1, a1), (2, a2), (4, .int .i64 (((i + 1) : Nat) : Int)), (5, .int .i64 ((j : Nat) : Int)), (89, .bool true)] trivial ?_
     refine RP_nil <| n_then <| W_true rfl ?_
     refine W_ret <| r_block <| r_loop <| r_block <| r_scope ?_
     refine ret_of (P := Tryd.prog) (fn := Tryd.f152) (m := [(0, .func (.yield l) #[] #[]), (1, .pointer (some ⟨g1, 0, none⟩)), (2, .pointer (some ⟨g2, 0, none⟩)), (4, .int .i64 (((i + 1) : Nat) : Int)), (5, .int .i64 ((j : Nat) : Int)), (89, .bool true)]) (w := w55) (res0 rfl ) ?_
     exact .inr hj
    ·
     replace hj : J _ w55 := hj
     have st57 := St.init w55 []
     refine RP_sg 1 [.p (.bool false)] [(0, .func (.yield l) #[] #[]), (1, a1), (2, a2), (4, .int .i64 (((i + 1) : Nat) : Int)), (5, .int .i64 ((j : Nat) : Int)), (89, .bool false)] trivial ?_
     refine RP_nil <| n_then <| W_false rfl ?_
     refine W_pick [0, 1, 2, 4, 5] (by kernel_rfl : pick _ _ = some [(0, .func (.yield l) #[] #[]), (1, a1), (2, a2), (4, .int .i64 (((i + 1) : Nat) : Int)), (5, .int .i64 ((j : Nat) : Int))]) ?_
     refine W_skip <| n_block ?_
     exact ⟨_, by omega, (i + 1), j, (pre ++ [((A.getD i Ent.zero), Ent.zero)]), rfl, rfl, hj, by omega, by omega, by rw [← hpre, hstep, List.append_assoc]; rfl⟩
   ·
    try have c36_48p := ne_of_beq_false c36_48
    refine RS_at (m' := [(0, .func (.yield l) #[] #[]), (1, a1), (2, a2), (4, .int .i64 ((i : Nat) : Int)), (5, .int .i64 ((j : Nat) : Int)), (6, a11), (7, a12), (36, .bool false)]) (by rw [c36_48]) ?_
    refine RS_sg 5 [.p (.int .i64 ((i : Nat) : Int)), .l 22 a1 (.slice ba A.length ca), .p (.int .i64 ((A.length : Nat) : Int)), .p (.bool (decide (((i : Nat) : Int) < ((A.length : Nat) : Int)))), .p (.bool (decide (((i : Nat) : Int) < ((A.length : Nat) : Int))))] [(0, .func (.yield l) #[] #[]), (1, a1), (2, a2), (4, .int .i64 ((i : Nat) : Int)), (5, .int .i64 ((j : Nat) : Int)), (6, a11), (7, a12), (36, .bool false), (41, .bool (decide (((i : Nat) : Int) < ((A.length : Nat) : Int))))] (⟨hp.b1.ext st47.ext List.not_mem_nil, hp.b2.ext st47.ext List.not_mem_nil, hp.ia.ext0 st47.ext, hp.ib.ext0 st47.ext⟩) (fun _ hS => ⟨ld1b (hS.1) nagg_22 rfl, trivial⟩) ?_
    rcases Bool.eq_false_or_eq_true (decide (((i : Nat) : Int) < ((A.length : Nat) : Int))) with c41_58 | c41_58
    ·
     have c41_58p := of_decide_eq_true c41_58
     refine RS_at (m' := [(0, .func (.yield l) #[] #[]), (1, a1), (2, a2), (4, .int .i64 ((i : Nat) : Int)), (5, .int .i64 ((j : Nat) : Int)), (6, a11), (7, a12), (36, .bool false), (41, .bool true)]) (by rw [c41_58]) ?_
     let a59 : Value := .slice ba A.length ca
     refine RS_sg 2 [.l 22 a1 a59, .p (.int .i64 ((i : Nat) : Int))] [(0, .func (.yield l) #[] #[]), (1, a1), (2, a2), (4, .int .i64 ((i : Nat) : Int)), (5, .int .i64 ((j : Nat) : Int)), (6, a11), (7, a12), (36, .bool false), (41, .bool true), (42, a59), (43, .int .i64 ((i : Nat) : Int))] (⟨hp.b1.ext st47.ext List.not_mem_nil, hp.b2.ext st47.ext List.not_mem_nil, hp.ia.ext0 st47.ext, hp.ib.ext0 st47.ext⟩) (fun _ hS => ⟨ld1b (hS.1) nagg_22 rfl, trivial⟩) ?_
     refine RS_gq rfl rfl rfl (⟨hp.b1.ext st47.ext List.not_mem_nil, hp.b2.ext st47.ext List.not_mem_nil, hp.ia.ext0 st47.ext, hp.ib.ext0 st47.ext⟩) (v := .pointer (some ⟨(sp ba), so ba + i * 5, none⟩)) (fun _ _ => ev_indexI idxEnt rfl rfl (hp.ia.some_ (by rw [entCells_len]; omega)) (by omega)) ?_
     let a60 : Value := .slice bb B.length cb
     refine RS_sg 4 [.p (.pointer (some ⟨(sp ba), so ba + i * 5, none⟩)), .l 9 (.pointer (some ⟨(sp ba), so ba + i * 5, none⟩)) (.string ((A.getD i Ent.zero).key)), .l 22 a2 a60, .p (.int .i64 ((j : Nat) : Int))] [(0, .func (.yield l) #[] #[]), (1, a1), (2, a2), (4, .int .i64 ((i : Nat) : Int)), (5, .int .i64 ((j : Nat) : Int)), (6, a11), (7, a12), (36, .bool false), (41, .bool true), (46, .string ((A.getD i Ent.zero).key)), (47, a60), (48, .int .i64 ((j : Nat) : Int))] (⟨hp.b1.ext st47.ext List.not_mem_nil, hp.b2.ext st47.ext List.not_mem_nil, hp.ia.ext0 st47.ext, hp.ib.ext0 st47.ext⟩) (fun _ hS => ⟨(InS.load1 nagg_9 (hS.2.2.1) (entCells_0 (getD_some (by omega)) rfl)), ld1b (hS.2.1) nagg_22 rfl, trivial⟩) ?_
     refine RS_gq rfl rfl rfl (⟨hp.b1.ext st47.ext List.not_mem_nil, hp.b2.ext st47.ext List.not_mem_nil, hp.ia.ext0 st47.ext, hp.ib.ext0 st47.ext⟩) (v := .pointer (some ⟨(sp bb), so bb + j * 5, none⟩)) (fun _ _ => ev_indexI idxEnt rfl rfl (hp.ib.some_ (by rw [entCells_len]; omega)) (by omega)) ?_
     refine RS_sg 6 [.p (.pointer (some ⟨(sp bb), so bb + j * 5, none⟩)), .l 9 (.pointer (some ⟨(sp bb), so bb + j * 5, none⟩)) (.string ((B.getD j Ent.zero).key)), .p (.bool (Op.bytesLess ((A.getD i Ent.zero).key).toList ((B.getD j Ent.zero).key).toList)), .p (.bool (Op.bytesLess ((A.getD i Ent.zero).key).toList ((B.getD j Ent.zero).key).toList)), .p (.bool (Op.bytesLess ((A.getD i Ent.zero).key).toList ((B.getD j Ent.zero).key).toList)), .p (.bool (Op.bytesLess ((A.getD i Ent.zero).key).toList ((B.getD j Ent.zero).key).toList))] [(0, .func (.yield l) #[] #[]), (1, a1), (2, a2), (4, .int .i64 ((i : Nat) : Int)), (5, .int .i64 ((j : Nat) : Int)), (6, a11), (7, a12), (31, .bool (Op.bytesLess ((A.getD i Ent.zero).key).toList ((B.getD j Ent.zero).key).toList))] (⟨hp.b1.ext st47.ext List.not_mem_nil, hp.b2.ext st47.ext List.not_mem_nil, hp.ia.ext0 st47.ext, hp.ib.ext0 st47.ext⟩) (fun _ hS => ⟨(InS.load1 nagg_9 (hS.2.2.2) (entCells_0 (getD_some (by omega)) rfl)), trivial⟩) ?_
     refine RS_nil <| n_then <| W_cond rfl (fun c31_61 => ?_) (fun c31_61 => ?_)
     ·
      refine W_seq <| W_region <| RP_sg 2 [.l 22 a1 a59, .p (.int .i64 ((i : Nat) : Int))] [(0, .func (.yield l) #[] #[]), (1, a1), (2, a2), (4, .int .i64 ((i : Nat) : Int)), (5, .int .i64 ((j : Nat) : Int)), (6, a11), (7, a12), (55, a59), (56, .int .i64 ((i : Nat) : Int))] ⟨ld1b (hp.b1.ext st47.ext List.not_mem_nil) nagg_22 rfl, trivial⟩ ?_
      refine RP_q rfl (v := .pointer (some ⟨(sp ba), so ba + i * 5, none⟩)) (ev_indexI idxEnt rfl rfl (hp.ia.some_ (by rw [entCells_len]; omega)) (by omega)) ?_
      let a62 : Value := .agg #[.string ((A.getD i Ent.zero).key), .int .i64 ((A.getD i Ent.zero).c), .int .i64 ((A.getD i Ent.zero).n), .string ((A.getD i Ent.zero).val), .bool ((A.getD i Ent.zero).dead)]
      refine RP_sg 1 [.l 61 (.pointer (some ⟨(sp ba), so ba + i * 5, none⟩)) a62] [(0, .func (.yield l) #[] #[]), (1, a1), (2, a2), (4, .int .i64 ((i : Nat) : Int)), (5, .int .i64 ((j : Nat) : Int)), (6, a11), (7, a12), (58, a62)] ⟨InS.loadN agg_61 (hp.ia.ext0 st47.ext) (entCells_at (getD_some (by omega))) rfl (by decide), trivial⟩ ?_
      refine RP_e rfl (ef_store st47 rfl rfl rfl size_61 1 rfl rfl rfl rfl (.inr hgx)) ?_
      rintro _ w63 ⟨rfl, st64, hx65⟩
      replace st64 : St [] w4 w63 [(gy, 61, [.string (⟨#[]⟩ : ByteArray), .int .i64 0, .int .i64 0, .string (⟨#[]⟩ : ByteArray), .bool false]), (gx, 61, [.string ((A.getD i Ent.zero).key), .int .i64 ((A.getD i Ent.zero).c), .int .i64 ((A.getD i Ent.zero).n), .string ((A.getD i Ent.zero).val), .bool ((A.getD i Ent.zero).dead)])] := st64
      refine RP_pk [(0, .func (.yield l) #[] #[]), (1, a1), (2, a2), (4, .int .i64 ((i : Nat) : Int)), (5, .int .i64 ((j : Nat) : Int)), (6, a11), (7, a12)] ?_
      refine RP_nil <| n_then <| W_region <| RP_sg 2 [.p (.int .i64 ((i : Nat) : Int)), .p (.int .i64 (IntKind.i64.wrap (((i : Nat) : Int) + 1)))] [(0, .func (.yield l) #[] #[]), (1, a1), (2, a2), (5, .int .i64 ((j : Nat) : Int)), (6, a11), (7, a12), (60, .int .i64 (IntKind.i64.wrap (((i : Nat) : Int) + 1)))] trivial ?_
      refine RP_at (m' := [(0, .func (.yield l) #[] #[]), (1, a1), (2, a2), (5, .int .i64 ((j : Nat) : Int)), (6, a11), (7, a12), (60, .int .i64 (((i + 1) : Nat) : Int))]) (by rw [inc_i (m := A.length) (by omega) hA]) ?_
      refine RP_sg 1 [.p (.int .i64 (((i + 1) : Nat) : Int))] [(0, .func (.yield l) #[] #[]), (1, a1), (2, a2), (4, .int .i64 (((i + 1) : Nat) : Int)), (5, .int .i64 ((j : Nat) : Int)), (6, a11), (7, a12)] trivial ?_
      refine RP_nil <| n_block <| n_then <| W_seq <| W_region ?_
      let a66 : Value := .agg #[.string (⟨#[]⟩ : ByteArray), .int .i64 0, .int .i64 0, .string (⟨#[]⟩ : ByteArray), .bool false]
      refine RP_sg 3 [.p (.func (.yield l) #[] #[]), .l 61 a11 a62, .l 61 a12 a66] [(0, .func (.yield l) #[] #[]), (1, a1), (2, a2), (4, .int .i64 (((i + 1) : Nat) : Int)), (5, .int .i64 ((j : Nat) : Int)), (85, .func (.yield l) #[] #[]), (86, a62), (87, a66)] ⟨ldN st64 agg_61 1 rfl rfl rfl, ldN st64 agg_61 0 rfl rfl rfl, trivial⟩ ?_
      have hstep : pairsL (A.drop i) (B.drop j) = ((A.getD i Ent.zero), Ent.zero) :: pairsL (A.drop (i + 1)) (B.drop j) := pairs_x (by omega) (.inr ⟨by omega, c31_61⟩) hjl
      have hpf : pre ++ [((A.getD i Ent.zero), Ent.zero)] <+: pairsL A B := by rw [← hpre, hstep]; exact ⟨_, by rw [List.append_assoc]; rfl⟩
      refine RP_y rfl (ef_yield (hY _ ((A.getD i Ent.zero), Ent.zero) _ ((hJ _) _ _ hj (Grow.of_ext st64.ext)) hpf) rfl rfl) ?_
      rintro _ w67 ⟨b_, rfl, -, hj⟩
      cases b_
      ·
       replace hj : Jx w67 := hj
       have st68 := St.init w67 []
       refine RP_sg 1 [.p (.bool true)] [(0, .func (.yield l) #[] #[]), (1, a1), (2, a2), (4, .int .i64 (((i + 1) : Nat) : Int)), (5, .int .i64 ((j : Nat) : Int)), (89, .bool true)] trivial ?_
       refine RP_nil <| n_then <| W_true rfl ?_
       refine W_ret <| r_block <| r_loop <| r_block <| r_scope ?_
       refine ret_of (P := Tryd.prog) (fn := Tryd.f152) (m := [(0, .func (.yield l) #[] #[]), (1, .pointer (some ⟨g1, 0, none⟩)), (2, .pointer (some ⟨g2, 0, none⟩)), (4, .int .i64 (((i + 1) : Nat) : Int)), (5, .int .i64 ((j : Nat) : Int)), (89, .bool true)]) (w := w67) (res0 rfl ) ?_
       exact .inr hj
      ·
       replace hj : J _ w67 := hj
       have st69 := St.init w67 []
       refine RP_sg 1 [.p (.bool false)] [(0, .func (.yield l) #[] #[]), (1, a1), (2, a2), (4, .int .i64 (((i + 1) : Nat) : Int)), (5, .int .i64 ((j : Nat) : Int)), (89, .bool false)] trivial ?_
       refine RP_nil <| n_then <| W_false rfl ?_
       refine W_pick [0, 1, 2, 4, 5] (by kernel_rfl : pick _ _ = some [(0, .func (.yield l) #[] #[]), (1, a1), (2, a2), (4, .int .i64 (((i + 1) : Nat) : Int)), (5, .int .i64 ((j : Nat) : Int))]) ?_
       refine W_skip <| n_block ?_
       exact ⟨_, by omega, (i + 1), j, (pre ++ [((A.getD i Ent.zero), Ent.zero)]), rfl, rfl, hj, by omega, by omega, by rw [← hpre, hstep, List.append_assoc]; rfl⟩
     ·
      refine W_seq <| W_regionS ⟨(fun w' => Blk w' g1 22 [a59].toArray ∧ Blk w' g2 22 [a60].toArray ∧ InS w' ba (entCells A) ∧ InS w' bb (entCells B)), (fun _ => True)⟩ (.cons 1 0 (.cons 1 1 (.cons 1 2 (.cons 1 3 (.cons 1 4 (.cons 1 5 (.cons 1 6 (.cons 1 7 (.cons 1 8 (.cons 1 9 (.cons 1 10 (.cons 1 11 (.cons 1 12 (.cons 1 13 (.cons 1 14 (.cons 1 15 (.cons 1 16 (.cons 1 17 .nil)))))))))))))))))) 18 (by kernel_rfl) (by kernel_rfl) ?_
      have st70 := st47.drew
      refine RS_sg 5 [.p (.int .i64 ((i : Nat) : Int)), .l 22 a1 a59, .p (.int .i64 ((A.length : Nat) : Int)), .p (.bool (((i : Nat) : Int) == ((A.length : Nat) : Int))), .p (.bool (((i : Nat) : Int) == ((A.length : Nat) : Int)))] [(0, .func (.yield l) #[] #[]), (1, a1), (2, a2), (4, .int .i64 ((i : Nat) : Int)), (5, .int .i64 ((j : Nat) : Int)), (6, a11), (7, a12), (66, .bool (((i : Nat) : Int) == ((A.length : Nat) : Int)))] (⟨hp.b1.ext st70.ext List.not_mem_nil, hp.b2.ext st70.ext List.not_mem_nil, hp.ia.ext0 st70.ext, hp.ib.ext0 st70.ext⟩) (fun _ hS => ⟨ld1b (hS.1) nagg_22 rfl, trivial⟩) ?_
      refine RS_at (m' := [(0, .func (.yield l) #[] #[]), (1, a1), (2, a2), (4, .int .i64 ((i : Nat) : Int)), (5, .int .i64 ((j : Nat) : Int)), (6, a11), (7, a12), (66, .bool false)]) (by rw [c25_13]) ?_
      refine RS_sg 2 [.l 22 a2 a60, .p (.int .i64 ((j : Nat) : Int))] [(0, .func (.yield l) #[] #[]), (1, a1), (2, a2), (4, .int .i64 ((i : Nat) : Int)), (5, .int .i64 ((j : Nat) : Int)), (6, a11), (7, a12), (66, .bool false), (67, a60), (68, .int .i64 ((j : Nat) : Int))] (⟨hp.b1.ext st70.ext List.not_mem_nil, hp.b2.ext st70.ext List.not_mem_nil, hp.ia.ext0 st70.ext, hp.ib.ext0 st70.ext⟩) (fun _ hS => ⟨ld1b (hS.2.1) nagg_22 rfl, trivial⟩) ?_
      refine RS_gq rfl rfl rfl (⟨hp.b1.ext st70.ext List.not_mem_nil, hp.b2.ext st70.ext List.not_mem_nil, hp.ia.ext0 st70.ext, hp.ib.ext0 st70.ext⟩) (v := .pointer (some ⟨(sp bb), so bb + j * 5, none⟩)) (fun _ _ => ev_indexI idxEnt rfl rfl (hp.ib.some_ (by rw [entCells_len]; omega)) (by omega)) ?_
      refine RS_sg 4 [.p (.pointer (some ⟨(sp bb), so bb + j * 5, none⟩)), .l 9 (.pointer (some ⟨(sp bb), so bb + j * 5, none⟩)) (.string ((B.getD j Ent.zero).key)), .l 22 a1 a59, .p (.int .i64 ((i : Nat) : Int))] [(0, .func (.yield l) #[] #[]), (1, a1), (2, a2), (4, .int .i64 ((i : Nat) : Int)), (5, .int .i64 ((j : Nat) : Int)), (6, a11), (7, a12), (66, .bool false), (71, .string ((B.getD j Ent.zero).key)), (72, a59), (73, .int .i64 ((i : Nat) : Int))] (⟨hp.b1.ext st70.ext List.not_mem_nil, hp.b2.ext st70.ext List.not_mem_nil, hp.ia.ext0 st70.ext, hp.ib.ext0 st70.ext⟩) (fun _ hS => ⟨(InS.load1 nagg_9 (hS.2.2.2) (entCells_0 (getD_some (by omega)) rfl)), ld1b (hS.1) nagg_22 rfl, trivial⟩) ?_
      refine RS_gq rfl rfl rfl (⟨hp.b1.ext st70.ext List.not_mem_nil, hp.b2.ext st70.ext List.not_mem_nil, hp.ia.ext0 st70.ext, hp.ib.ext0 st70.ext⟩) (v := .pointer (some ⟨(sp ba), so ba + i * 5, none⟩)) (fun _ _ => ev_indexI idxEnt rfl rfl (hp.ia.some_ (by rw [entCells_len]; omega)) (by omega)) ?_
      refine RS_sg 5 [.p (.pointer (some ⟨(sp ba), so ba + i * 5, none⟩)), .l 9 (.pointer (some ⟨(sp ba), so ba + i * 5, none⟩)) (.string ((A.getD i Ent.zero).key)), .p (.bool (Op.bytesLess ((B.getD j Ent.zero).key).toList ((A.getD i Ent.zero).key).toList)), .p (.bool (Op.bytesLess ((B.getD j Ent.zero).key).toList ((A.getD i Ent.zero).key).toList)), .p (.bool (Op.bytesLess ((B.getD j Ent.zero).key).toList ((A.getD i Ent.zero).key).toList))] [(0, .func (.yield l) #[] #[]), (1, a1), (2, a2), (4, .int .i64 ((i : Nat) : Int)), (5, .int .i64 ((j : Nat) : Int)), (6, a11), (7, a12), (61, .bool (Op.bytesLess ((B.getD j Ent.zero).key).toList ((A.getD i Ent.zero).key).toList))] (⟨hp.b1.ext st70.ext List.not_mem_nil, hp.b2.ext st70.ext List.not_mem_nil, hp.ia.ext0 st70.ext, hp.ib.ext0 st70.ext⟩) (fun _ hS => ⟨(InS.load1 nagg_9 (hS.2.2.1) (entCells_0 (getD_some (by omega)) rfl)), trivial⟩) ?_
      refine RS_nil <| n_then <| W_cond rfl (fun c61_71 => ?_) (fun c61_71 => ?_)
      ·
       refine W_seq <| W_region <| RP_sg 2 [.l 22 a2 a60, .p (.int .i64 ((j : Nat) : Int))] [(0, .func (.yield l) #[] #[]), (1, a1), (2, a2), (4, .int .i64 ((i : Nat) : Int)), (5, .int .i64 ((j : Nat) : Int)), (6, a11), (7, a12), (79, a60), (80, .int .i64 ((j : Nat) : Int))] ⟨ld1b (hp.b2.ext st70.ext List.not_mem_nil) nagg_22 rfl, trivial⟩ ?_
       refine RP_q rfl (v := .pointer (some ⟨(sp bb), so bb + j * 5, none⟩)) (ev_indexI idxEnt rfl rfl (hp.ib.some_ (by rw [entCells_len]; omega)) (by omega)) ?_
       let a72 : Value := .agg #[.string ((B.getD j Ent.zero).key), .int .i64 ((B.getD j Ent.zero).c), .int .i64 ((B.getD j Ent.zero).n), .string ((B.getD j Ent.zero).val), .bool ((B.getD j Ent.zero).dead)]
       refine RP_sg 1 [.l 61 (.pointer (some ⟨(sp bb), so bb + j * 5, none⟩)) a72] [(0, .func (.yield l) #[] #[]), (1, a1), (2, a2), (4, .int .i64 ((i : Nat) : Int)), (5, .int .i64 ((j : Nat) : Int)), (6, a11), (7, a12), (82, a72)] ⟨InS.loadN agg_61 (hp.ib.ext0 st70.ext) (entCells_at (getD_some (by omega))) rfl (by decide), trivial⟩ ?_
       refine RP_e rfl (ef_store st70 rfl rfl rfl size_61 0 rfl rfl rfl rfl (.inr hgy)) ?_
       rintro _ w73 ⟨rfl, st74, hx75⟩
       replace st74 : St [] w4 w73 [(gy, 61, [.string ((B.getD j Ent.zero).key), .int .i64 ((B.getD j Ent.zero).c), .int .i64 ((B.getD j Ent.zero).n), .string ((B.getD j Ent.zero).val), .bool ((B.getD j Ent.zero).dead)]), (gx, 61, [.string (⟨#[]⟩ : ByteArray), .int .i64 0, .int .i64 0, .string (⟨#[]⟩ : ByteArray), .bool false])] := st74
       refine RP_pk [(0, .func (.yield l) #[] #[]), (1, a1), (2, a2), (4, .int .i64 ((i : Nat) : Int)), (5, .int .i64 ((j : Nat) : Int)), (6, a11), (7, a12)] ?_
       refine RP_nil <| n_then <| W_region <| RP_sg 2 [.p (.int .i64 ((j : Nat) : Int)), .p (.int .i64 (IntKind.i64.wrap (((j : Nat) : Int) + 1)))] [(0, .func (.yield l) #[] #[]), (1, a1), (2, a2), (4, .int .i64 ((i : Nat) : Int)), (6, a11), (7, a12), (84, .int .i64 (IntKind.i64.wrap (((j : Nat) : Int) + 1)))] trivial ?_
       refine RP_at (m' := [(0, .func (.yield l) #[] #[]), (1, a1), (2, a2), (4, .int .i64 ((i : Nat) : Int)), (6, a11), (7, a12), (84, .int .i64 (((j + 1) : Nat) : Int))]) (by rw [inc_i (m := B.length) (by omega) hB]) ?_
       refine RP_sg 1 [.p (.int .i64 (((j + 1) : Nat) : Int))] [(0, .func (.yield l) #[] #[]), (1, a1), (2, a2), (4, .int .i64 ((i : Nat) : Int)), (5, .int .i64 (((j + 1) : Nat) : Int)), (6, a11), (7, a12)] trivial ?_
       refine RP_nil <| n_block <| n_then <| W_seq <| W_region ?_
       let a76 : Value := .agg #[.string (⟨#[]⟩ : ByteArray), .int .i64 0, .int .i64 0, .string (⟨#[]⟩ : ByteArray), .bool false]
       refine RP_sg 3 [.p (.func (.yield l) #[] #[]), .l 61 a11 a76, .l 61 a12 a72] [(0, .func (.yield l) #[] #[]), (1, a1), (2, a2), (4, .int .i64 ((i : Nat) : Int)), (5, .int .i64 (((j + 1) : Nat) : Int)), (85, .func (.yield l) #[] #[]), (86, a76), (87, a72)] ⟨ldN st74 agg_61 1 rfl rfl rfl, ldN st74 agg_61 0 rfl rfl rfl, trivial⟩ ?_
       have hstep : pairsL (A.drop i) (B.drop j) = (Ent.zero, (B.getD j Ent.zero)) :: pairsL (A.drop i) (B.drop (j + 1)) := pairs_y (by omega) (.inr ⟨by omega, c31_61, c61_71⟩)
       have hpf : pre ++ [(Ent.zero, (B.getD j Ent.zero))] <+: pairsL A B := by rw [← hpre, hstep]; exact ⟨_, by rw [List.append_assoc]; rfl⟩
       refine RP_y rfl (ef_yield (hY _ (Ent.zero, (B.getD j Ent.zero)) _ ((hJ _) _ _ hj (Grow.of_ext st74.ext)) hpf) rfl rfl) ?_
       rintro _ w77 ⟨b_, rfl, -, hj⟩
       cases b_
       ·
        replace hj : Jx w77 := hj
        have st78 := St.init w77 []
        refine RP_sg 1 [.p (.bool true)] [(0, .func (.yield l) #[] #[]), (1, a1), (2, a2), (4, .int .i64 ((i : Nat) : Int)), (5, .int .i64 (((j + 1) : Nat) : Int)), (89, .bool true)] trivial ?_
        refine RP_nil <| n_then <| W_true rfl ?_
        refine W_ret <| r_block <| r_loop <| r_block <| r_scope ?_
        refine ret_of (P := Tryd.prog) (fn := Tryd.f152) (m := [(0, .func (.yield l) #[] #[]), (1, .pointer (some ⟨g1, 0, none⟩)), (2, .pointer (some ⟨g2, 0, none⟩)), (4, .int .i64 ((i : Nat) : Int)), (5, .int .i64 (((j + 1) : Nat) : Int)), (89, .bool true)]) (w := w77) (res0 rfl ) ?_
        exact .inr hj
       ·
        replace hj : J _ w77 := hj
        have st79 := St.init w77 []
        refine RP_sg 1 [.p (.bool false)] [(0, .func (.yield l) #[] #[]), (1, a1), (2, a2), (4, .int .i64 ((i : Nat) : Int)), (5, .int .i64 (((j + 1) : Nat) : Int)), (89, .bool false)] trivial ?_
        refine RP_nil <| n_then <| W_false rfl ?_
        refine W_pick [0, 1, 2, 4, 5] (by kernel_rfl : pick _ _ = some [(0, .func (.yield l) #[] #[]), (1, a1), (2, a2), (4, .int .i64 ((i : Nat) : Int)), (5, .int .i64 (((j + 1) : Nat) : Int))]) ?_
        refine W_skip <| n_block ?_
        exact ⟨_, by omega, i, (j + 1), (pre ++ [(Ent.zero, (B.getD j Ent.zero))]), rfl, rfl, hj, by omega, by omega, by rw [← hpre, hstep, List.append_assoc]; rfl⟩
      ·
       refine W_seq <| W_regionS ⟨(fun w' => Blk w' g1 22 [a59].toArray ∧ Blk w' g2 22 [a60].toArray ∧ InS w' ba (entCells A) ∧ InS w' bb (entCells B)), (fun _ => True)⟩ (.cons 1 0 (.cons 1 1 (.cons 1 2 (.cons 1 3 (.cons 1 4 (.cons 1 5 (.cons 1 6 (.cons 1 7 (.cons 2 8 (.cons 3 9 .nil)))))))))) 10 (by kernel_rfl) (by kernel_rfl) ?_
       have st80 := st70.drew
       refine RS_sg 2 [.l 22 a1 a59, .p (.int .i64 ((i : Nat) : Int))] [(0, .func (.yield l) #[] #[]), (1, a1), (2, a2), (4, .int .i64 ((i : Nat) : Int)), (5, .int .i64 ((j : Nat) : Int)), (6, a11), (7, a12), (8, a59), (9, .int .i64 ((i : Nat) : Int))] (⟨hp.b1.ext st80.ext List.not_mem_nil, hp.b2.ext st80.ext List.not_mem_nil, hp.ia.ext0 st80.ext, hp.ib.ext0 st80.ext⟩) (fun _ hS => ⟨ld1b (hS.1) nagg_22 rfl, trivial⟩) ?_
       refine RS_q rfl rfl (⟨hp.b1.ext st80.ext List.not_mem_nil, hp.b2.ext st80.ext List.not_mem_nil, hp.ia.ext0 st80.ext, hp.ib.ext0 st80.ext⟩) (v := .pointer (some ⟨(sp ba), so ba + i * 5, none⟩)) (fun _ _ => ev_indexI idxEnt rfl rfl (hp.ia.some_ (by rw [entCells_len]; omega)) (by omega)) ?_
       let a81 : Value := .agg #[.string ((A.getD i Ent.zero).key), .int .i64 ((A.getD i Ent.zero).c), .int .i64 ((A.getD i Ent.zero).n), .string ((A.getD i Ent.zero).val), .bool ((A.getD i Ent.zero).dead)]
       refine RS_sg 3 [.l 61 (.pointer (some ⟨(sp ba), so ba + i * 5, none⟩)) a81, .l 22 a2 a60, .p (.int .i64 ((j : Nat) : Int))] [(0, .func (.yield l) #[] #[]), (1, a1), (2, a2), (4, .int .i64 ((i : Nat) : Int)), (5, .int .i64 ((j : Nat) : Int)), (6, a11), (7, a12), (11, a81), (12, a60), (13, .int .i64 ((j : Nat) : Int))] (⟨hp.b1.ext st80.ext List.not_mem_nil, hp.b2.ext st80.ext List.not_mem_nil, hp.ia.ext0 st80.ext, hp.ib.ext0 st80.ext⟩) (fun _ hS => ⟨(InS.loadN agg_61 (hS.2.2.1) (entCells_at (getD_some (by omega))) rfl (by decide)), ld1b (hS.2.1) nagg_22 rfl, trivial⟩) ?_
       refine RS_q rfl rfl (⟨hp.b1.ext st80.ext List.not_mem_nil, hp.b2.ext st80.ext List.not_mem_nil, hp.ia.ext0 st80.ext, hp.ib.ext0 st80.ext⟩) (v := .pointer (some ⟨(sp bb), so bb + j * 5, none⟩)) (fun _ _ => ev_indexI idxEnt rfl rfl (hp.ib.some_ (by rw [entCells_len]; omega)) (by omega)) ?_
       let a82 : Value := .agg #[.string ((B.getD j Ent.zero).key), .int .i64 ((B.getD j Ent.zero).c), .int .i64 ((B.getD j Ent.zero).n), .string ((B.getD j Ent.zero).val), .bool ((B.getD j Ent.zero).dead)]
       refine RS_sg 1 [.l 61 (.pointer (some ⟨(sp bb), so bb + j * 5, none⟩)) a82] [(0, .func (.yield l) #[] #[]), (1, a1), (2, a2), (4, .int .i64 ((i : Nat) : Int)), (5, .int .i64 ((j : Nat) : Int)), (6, a11), (7, a12), (11, a81), (15, a82)] (⟨hp.b1.ext st80.ext List.not_mem_nil, hp.b2.ext st80.ext List.not_mem_nil, hp.ia.ext0 st80.ext, hp.ib.ext0 st80.ext⟩) (fun _ hS => ⟨(InS.loadN agg_61 (hS.2.2.2) (entCells_at (getD_some (by omega))) rfl (by decide)), trivial⟩) ?_
       refine RS_e rfl rfl (ef_store st80 rfl rfl rfl size_61 1 rfl rfl rfl rfl (.inr hgx)) ?_
       rintro _ w83 ⟨rfl, st84, hx85⟩
       replace st84 : St [] w4 w83 [(gy, 61, [.string (⟨#[]⟩ : ByteArray), .int .i64 0, .int .i64 0, .string (⟨#[]⟩ : ByteArray), .bool false]), (gx, 61, [.string ((A.getD i Ent.zero).key), .int .i64 ((A.getD i Ent.zero).c), .int .i64 ((A.getD i Ent.zero).n), .string ((A.getD i Ent.zero).val), .bool ((A.getD i Ent.zero).dead)])] := st84
       refine ⟨⟨hp.b1.ext st84.ext List.not_mem_nil, hp.b2.ext st84.ext List.not_mem_nil, hp.ia.ext0 st84.ext, hp.ib.ext0 st84.ext⟩, ?_⟩
       refine RS_f rfl rfl (ef_store st84 rfl rfl rfl size_61 0 rfl rfl rfl rfl (.inr hgy)) ?_
       rintro _ w86 ⟨rfl, st87, hx88⟩
       replace st87 : St [] w4 w86 [(gy, 61, [.string ((B.getD j Ent.zero).key), .int .i64 ((B.getD j Ent.zero).c), .int .i64 ((B.getD j Ent.zero).n), .string ((B.getD j Ent.zero).val), .bool ((B.getD j Ent.zero).dead)]), (gx, 61, [.string ((A.getD i Ent.zero).key), .int .i64 ((A.getD i Ent.zero).c), .int .i64 ((A.getD i Ent.zero).n), .string ((A.getD i Ent.zero).val), .bool ((A.getD i Ent.zero).dead)])] := st87
       refine RS_pk [(0, .func (.yield l) #[] #[]), (1, a1), (2, a2), (4, .int .i64 ((i : Nat) : Int)), (5, .int .i64 ((j : Nat) : Int)), (6, a11), (7, a12)] ?_
       refine RS_nil <| n_then <| W_region <| RP_sg 2 [.p (.int .i64 ((i : Nat) : Int)), .p (.int .i64 (IntKind.i64.wrap (((i : Nat) : Int) + 1)))] [(0, .func (.yield l) #[] #[]), (1, a1), (2, a2), (5, .int .i64 ((j : Nat) : Int)), (6, a11), (7, a12), (17, .int .i64 (IntKind.i64.wrap (((i : Nat) : Int) + 1)))] trivial ?_
       refine RP_at (m' := [(0, .func (.yield l) #[] #[]), (1, a1), (2, a2), (5, .int .i64 ((j : Nat) : Int)), (6, a11), (7, a12), (17, .int .i64 (((i + 1) : Nat) : Int))]) (by rw [inc_i (m := A.length) (by omega) hA]) ?_
       refine RP_sg 2 [.p (.int .i64 ((j : Nat) : Int)), .p (.int .i64 (IntKind.i64.wrap (((j : Nat) : Int) + 1)))] [(0, .func (.yield l) #[] #[]), (1, a1), (2, a2), (6, a11), (7, a12), (17, .int .i64 (((i + 1) : Nat) : Int)), (19, .int .i64 (IntKind.i64.wrap (((j : Nat) : Int) + 1)))] trivial ?_
       refine RP_at (m' := [(0, .func (.yield l) #[] #[]), (1, a1), (2, a2), (6, a11), (7, a12), (17, .int .i64 (((i + 1) : Nat) : Int)), (19, .int .i64 (((j + 1) : Nat) : Int))]) (by rw [inc_i (m := B.length) (by omega) hB]) ?_
       refine RP_sg 2 [.p (.int .i64 (((i + 1) : Nat) : Int)), .p (.int .i64 (((j + 1) : Nat) : Int))] [(0, .func (.yield l) #[] #[]), (1, a1), (2, a2), (4, .int .i64 (((i + 1) : Nat) : Int)), (5, .int .i64 (((j + 1) : Nat) : Int)), (6, a11), (7, a12)] trivial ?_
       refine RP_nil <| n_block <| n_then <| W_seq <| W_region <| RP_sg 3 [.p (.func (.yield l) #[] #[]), .l 61 a11 a81, .l 61 a12 a82] [(0, .func (.yield l) #[] #[]), (1, a1), (2, a2), (4, .int .i64 (((i + 1) : Nat) : Int)), (5, .int .i64 (((j + 1) : Nat) : Int)), (85, .func (.yield l) #[] #[]), (86, a81), (87, a82)] ⟨ldN st87 agg_61 1 rfl rfl rfl, ldN st87 agg_61 0 rfl rfl rfl, trivial⟩ ?_
       have hstep : pairsL (A.drop i) (B.drop j) = ((A.getD i Ent.zero), (B.getD j Ent.zero)) :: pairsL (A.drop (i + 1)) (B.drop (j + 1)) := pairs_xy (by omega) (by omega) c31_61 c61_71
       have hpf : pre ++ [((A.getD i Ent.zero), (B.getD j Ent.zero))] <+: pairsL A B := by rw [← hpre, hstep]; exact ⟨_, by rw [List.append_assoc]; rfl⟩
       refine RP_y rfl (ef_yield (hY _ ((A.getD i Ent.zero), (B.getD j Ent.zero)) _ ((hJ _) _ _ hj (Grow.of_ext st87.ext)) hpf) rfl rfl) ?_
       rintro _ w89 ⟨b_, rfl, -, hj⟩
       cases b_
       ·
        replace hj : Jx w89 := hj
        have st90 := St.init w89 []
        refine RP_sg 1 [.p (.bool true)] [(0, .func (.yield l) #[] #[]), (1, a1), (2, a2), (4, .int .i64 (((i + 1) : Nat) : Int)), (5, .int .i64 (((j + 1) : Nat) : Int)), (89, .bool true)] trivial ?_
        refine RP_nil <| n_then <| W_true rfl ?_
        refine W_ret <| r_block <| r_loop <| r_block <| r_scope ?_
        refine ret_of (P := Tryd.prog) (fn := Tryd.f152) (m := [(0, .func (.yield l) #[] #[]), (1, .pointer (some ⟨g1, 0, none⟩)), (2, .pointer (some ⟨g2, 0, none⟩)), (4, .int .i64 (((i + 1) : Nat) : Int)), (5, .int .i64 (((j + 1) : Nat) : Int)), (89, .bool true)]) (w := w89) (res0 rfl ) ?_
        exact .inr hj
       ·
        replace hj : J _ w89 := hj
        have st91 := St.init w89 []
        refine RP_sg 1 [.p (.bool false)] [(0, .func (.yield l) #[] #[]), (1, a1), (2, a2), (4, .int .i64 (((i + 1) : Nat) : Int)), (5, .int .i64 (((j + 1) : Nat) : Int)), (89, .bool false)] trivial ?_
        refine RP_nil <| n_then <| W_false rfl ?_
        refine W_pick [0, 1, 2, 4, 5] (by kernel_rfl : pick _ _ = some [(0, .func (.yield l) #[] #[]), (1, a1), (2, a2), (4, .int .i64 (((i + 1) : Nat) : Int)), (5, .int .i64 (((j + 1) : Nat) : Int))]) ?_
        refine W_skip <| n_block ?_
        exact ⟨_, by omega, (i + 1), (j + 1), (pre ++ [((A.getD i Ent.zero), (B.getD j Ent.zero))]), rfl, rfl, hj, by omega, by omega, by rw [← hpre, hstep, List.append_assoc]; rfl⟩
    ·
     have c41_58p := of_decide_eq_false c41_58
     refine RS_at (m' := [(0, .func (.yield l) #[] #[]), (1, a1), (2, a2), (4, .int .i64 ((i : Nat) : Int)), (5, .int .i64 ((j : Nat) : Int)), (6, a11), (7, a12), (36, .bool false), (41, .bool false)]) (by rw [c41_58]) ?_
     refine RS_sg 14 [.no, .no, .no, .no, .no, .no, .no, .no, .no, .no, .no, .p (.bool false), .p (.bool false), .p (.bool false)] [(0, .func (.yield l) #[] #[]), (1, a1), (2, a2), (4, .int .i64 ((i : Nat) : Int)), (5, .int .i64 ((j : Nat) : Int)), (6, a11), (7, a12), (31, .bool false)] (⟨hp.b1.ext st47.ext List.not_mem_nil, hp.b2.ext st47.ext List.not_mem_nil, hp.ia.ext0 st47.ext, hp.ib.ext0 st47.ext⟩) (fun _ hS => trivial) ?_
     refine RS_nil <| n_then <| W_false rfl ?_
     refine W_seq <| W_regionS ⟨(fun w' => Blk w' g1 22 [.slice ba A.length ca].toArray ∧ Blk w' g2 22 [.slice bb B.length cb].toArray ∧ InS w' ba (entCells A) ∧ InS w' bb (entCells B)), (fun _ => True)⟩ (.cons 1 0 (.cons 1 1 (.cons 1 2 (.cons 1 3 (.cons 1 4 (.cons 1 5 (.cons 1 6 (.cons 1 7 (.cons 1 8 (.cons 1 9 (.cons 1 10 (.cons 1 11 (.cons 1 12 (.cons 1 13 (.cons 1 14 (.cons 1 15 (.cons 1 16 (.cons 1 17 .nil)))))))))))))))))) 18 (by kernel_rfl) (by kernel_rfl) ?_
     have st92 := st47.drew
     refine RS_sg 5 [.p (.int .i64 ((i : Nat) : Int)), .l 22 a1 (.slice ba A.length ca), .p (.int .i64 ((A.length : Nat) : Int)), .p (.bool (((i : Nat) : Int) == ((A.length : Nat) : Int))), .p (.bool (((i : Nat) : Int) == ((A.length : Nat) : Int)))] [(0, .func (.yield l) #[] #[]), (1, a1), (2, a2), (4, .int .i64 ((i : Nat) : Int)), (5, .int .i64 ((j : Nat) : Int)), (6, a11), (7, a12), (66, .bool (((i : Nat) : Int) == ((A.length : Nat) : Int)))] (⟨hp.b1.ext st92.ext List.not_mem_nil, hp.b2.ext st92.ext List.not_mem_nil, hp.ia.ext0 st92.ext, hp.ib.ext0 st92.ext⟩) (fun _ hS => ⟨ld1b (hS.1) nagg_22 rfl, trivial⟩) ?_
     refine RS_at (m' := [(0, .func (.yield l) #[] #[]), (1, a1), (2, a2), (4, .int .i64 ((i : Nat) : Int)), (5, .int .i64 ((j : Nat) : Int)), (6, a11), (7, a12), (66, .bool false)]) (by rw [c25_13]) ?_
     let a93 : Value := .slice bb B.length cb
     refine RS_sg 2 [.l 22 a2 a93, .p (.int .i64 ((j : Nat) : Int))] [(0, .func (.yield l) #[] #[]), (1, a1), (2, a2), (4, .int .i64 ((i : Nat) : Int)), (5, .int .i64 ((j : Nat) : Int)), (6, a11), (7, a12), (66, .bool false), (67, a93), (68, .int .i64 ((j : Nat) : Int))] (⟨hp.b1.ext st92.ext List.not_mem_nil, hp.b2.ext st92.ext List.not_mem_nil, hp.ia.ext0 st92.ext, hp.ib.ext0 st92.ext⟩) (fun _ hS => ⟨ld1b (hS.2.1) nagg_22 rfl, trivial⟩) ?_
     refine RS_gq rfl rfl rfl (⟨hp.b1.ext st92.ext List.not_mem_nil, hp.b2.ext st92.ext List.not_mem_nil, hp.ia.ext0 st92.ext, hp.ib.ext0 st92.ext⟩) (v := .pointer (some ⟨(sp bb), so bb + j * 5, none⟩)) (fun _ _ => ev_indexI idxEnt rfl rfl (hp.ib.some_ (by rw [entCells_len]; omega)) (by omega)) ?_
     let a94 : Value := .slice ba A.length ca
     refine RS_sg 4 [.p (.pointer (some ⟨(sp bb), so bb + j * 5, none⟩)), .l 9 (.pointer (some ⟨(sp bb), so bb + j * 5, none⟩)) (.string ((B.getD j Ent.zero).key)), .l 22 a1 a94, .p (.int .i64 ((i : Nat) : Int))] [(0, .func (.yield l) #[] #[]), (1, a1), (2, a2), (4, .int .i64 ((i : Nat) : Int)), (5, .int .i64 ((j : Nat) : Int)), (6, a11), (7, a12), (66, .bool false), (71, .string ((B.getD j Ent.zero).key)), (72, a94), (73, .int .i64 ((i : Nat) : Int))] (⟨hp.b1.ext st92.ext List.not_mem_nil, hp.b2.ext st92.ext List.not_mem_nil, hp.ia.ext0 st92.ext, hp.ib.ext0 st92.ext⟩) (fun _ hS => ⟨(InS.load1 nagg_9 (hS.2.2.2) (entCells_0 (getD_some (by omega)) rfl)), ld1b (hS.1) nagg_22 rfl, trivial⟩) ?_
     refine RS_gq rfl rfl rfl (⟨hp.b1.ext st92.ext List.not_mem_nil, hp.b2.ext st92.ext List.not_mem_nil, hp.ia.ext0 st92.ext, hp.ib.ext0 st92.ext⟩) (v := .pointer (some ⟨(sp ba), so ba + i * 5, none⟩)) (fun _ _ => ev_indexI idxEnt rfl rfl (hp.ia.some_ (by rw [entCells_len]; omega)) (by omega)) ?_
     refine RS_sg 5 [.p (.pointer (some ⟨(sp ba), so ba + i * 5, none⟩)), .l 9 (.pointer (some ⟨(sp ba), so ba + i * 5, none⟩)) (.string ((A.getD i Ent.zero).key)), .p (.bool (Op.bytesLess ((B.getD j Ent.zero).key).toList ((A.getD i Ent.zero).key).toList)), .p (.bool (Op.bytesLess ((B.getD j Ent.zero).key).toList ((A.getD i Ent.zero).key).toList)), .p (.bool (Op.bytesLess ((B.getD j Ent.zero).key).toList ((A.getD i Ent.zero).key).toList))] [(0, .func (.yield l) #[] #[]), (1, a1), (2, a2), (4, .int .i64 ((i : Nat) : Int)), (5, .int .i64 ((j : Nat) : Int)), (6, a11), (7, a12), (61, .bool (Op.bytesLess ((B.getD j Ent.zero).key).toList ((A.getD i Ent.zero).key).toList))] (⟨hp.b1.ext st92.ext List.not_mem_nil, hp.b2.ext st92.ext List.not_mem_nil, hp.ia.ext0 st92.ext, hp.ib.ext0 st92.ext⟩) (fun _ hS => ⟨(InS.load1 nagg_9 (hS.2.2.1) (entCells_0 (getD_some (by omega)) rfl)), trivial⟩) ?_
     refine RS_nil <| n_then <| W_cond rfl (fun c61_95 => ?_) (fun c61_95 => ?_)
     ·
      refine W_seq <| W_region <| RP_sg 2 [.l 22 a2 a93, .p (.int .i64 ((j : Nat) : Int))] [(0, .func (.yield l) #[] #[]), (1, a1), (2, a2), (4, .int .i64 ((i : Nat) : Int)), (5, .int .i64 ((j : Nat) : Int)), (6, a11), (7, a12), (79, a93), (80, .int .i64 ((j : Nat) : Int))] ⟨ld1b (hp.b2.ext st92.ext List.not_mem_nil) nagg_22 rfl, trivial⟩ ?_
      refine RP_q rfl (v := .pointer (some ⟨(sp bb), so bb + j * 5, none⟩)) (ev_indexI idxEnt rfl rfl (hp.ib.some_ (by rw [entCells_len]; omega)) (by omega)) ?_
      let a96 : Value := .agg #[.string ((B.getD j Ent.zero).key), .int .i64 ((B.getD j Ent.zero).c), .int .i64 ((B.getD j Ent.zero).n), .string ((B.getD j Ent.zero).val), .bool ((B.getD j Ent.zero).dead)]
      refine RP_sg 1 [.l 61 (.pointer (some ⟨(sp bb), so bb + j * 5, none⟩)) a96] [(0, .func (.yield l) #[] #[]), (1, a1), (2, a2), (4, .int .i64 ((i : Nat) : Int)), (5, .int .i64 ((j : Nat) : Int)), (6, a11), (7, a12), (82, a96)] ⟨InS.loadN agg_61 (hp.ib.ext0 st92.ext) (entCells_at (getD_some (by omega))) rfl (by decide), trivial⟩ ?_
      refine RP_e rfl (ef_store st92 rfl rfl rfl size_61 0 rfl rfl rfl rfl (.inr hgy)) ?_
      rintro _ w97 ⟨rfl, st98, hx99⟩
      replace st98 : St [] w4 w97 [(gy, 61, [.string ((B.getD j Ent.zero).key), .int .i64 ((B.getD j Ent.zero).c), .int .i64 ((B.getD j Ent.zero).n), .string ((B.getD j Ent.zero).val), .bool ((B.getD j Ent.zero).dead)]), (gx, 61, [.string (⟨#[]⟩ : ByteArray), .int .i64 0, .int .i64 0, .string (⟨#[]⟩ : ByteArray), .bool false])] := st98
      refine RP_pk [(0, .func (.yield l) #[] #[]), (1, a1), (2, a2), (4, .int .i64 ((i : Nat) : Int)), (5, .int .i64 ((j : Nat) : Int)), (6, a11), (7, a12)] ?_
      refine RP_nil <| n_then <| W_region <| RP_sg 2 [.p (.int .i64 ((j : Nat) : Int)), .p (.int .i64 (IntKind.i64.wrap (((j : Nat) : Int) + 1)))] [(0, .func (.yield l) #[] #[]), (1, a1), (2, a2), (4, .int .i64 ((i : Nat) : Int)), (6, a11), (7, a12), (84, .int .i64 (IntKind.i64.wrap (((j : Nat) : Int) + 1)))] trivial ?_
      refine RP_at (m' := [(0, .func (.yield l) #[] #[]), (1, a1), (2, a2), (4, .int .i64 ((i : Nat) : Int)), (6, a11), (7, a12), (84, .int .i64 (((j + 1) : Nat) : Int))]) (by rw [inc_i (m := B.length) (by omega) hB]) ?_
      refine RP_sg 1 [.p (.int .i64 (((j + 1) : Nat) : Int))] [(0, .func (.yield l) #[] #[]), (1, a1), (2, a2), (4, .int .i64 ((i : Nat) : Int)), (5, .int .i64 (((j + 1) : Nat) : Int)), (6, a11), (7, a12)] trivial ?_
      refine RP_nil <| n_block <| n_then <| W_seq <| W_region ?_
      let a100 : Value := .agg #[.string (⟨#[]⟩ : ByteArray), .int .i64 0, .int .i64 0, .string (⟨#[]⟩ : ByteArray), .bool false]
      refine RP_sg 3 [.p (.func (.yield l) #[] #[]), .l 61 a11 a100, .l 61 a12 a96] [(0, .func (.yield l) #[] #[]), (1, a1), (2, a2), (4, .int .i64 ((i : Nat) : Int)), (5, .int .i64 (((j + 1) : Nat) : Int)), (85, .func (.yield l) #[] #[]), (86, a100), (87, a96)] ⟨ldN st98 agg_61 1 rfl rfl rfl, ldN st98 agg_61 0 rfl rfl rfl, trivial⟩ ?_
      have hstep : pairsL (A.drop i) (B.drop j) = (Ent.zero, (B.getD j Ent.zero)) :: pairsL (A.drop i) (B.drop (j + 1)) := pairs_y (by omega) (.inr ⟨by omega, (by exfalso; omega), c61_95⟩)
      have hpf : pre ++ [(Ent.zero, (B.getD j Ent.zero))] <+: pairsL A B := by rw [← hpre, hstep]; exact ⟨_, by rw [List.append_assoc]; rfl⟩
      refine RP_y rfl (ef_yield (hY _ (Ent.zero, (B.getD j Ent.zero)) _ ((hJ _) _ _ hj (Grow.of_ext st98.ext)) hpf) rfl rfl) ?_
      rintro _ w101 ⟨b_, rfl, -, hj⟩
      cases b_
      ·
       replace hj : Jx w101 := hj
       have st102 := St.init w101 []
       refine RP_sg 1 [.p (.bool true)] [(0, .func (.yield l) #[] #[]), (1, a1), (2, a2), (4, .int .i64 ((i : Nat) : Int)), (5, .int .i64 (((j + 1) : Nat) : Int)), (89, .bool true)] trivial ?_
       refine RP_nil <| n_then <| W_true rfl ?_
       refine W_ret <| r_block <| r_loop <| r_block <| r_scope ?_
       refine ret_of (P := Tryd.prog) (fn := Tryd.f152) (m := [(0, .func (.yield l) #[] #[]), (1, .pointer (some ⟨g1, 0, none⟩)), (2, .pointer (some ⟨g2, 0, none⟩)), (4, .int .i64 ((i : Nat) : Int)), (5, .int .i64 (((j + 1) : Nat) : Int)), (89, .bool true)]) (w := w101) (res0 rfl ) ?_
       exact .inr hj
      ·
       replace hj : J _ w101 := hj
       have st103 := St.init w101 []
       refine RP_sg 1 [.p (.bool false)] [(0, .func (.yield l) #[] #[]), (1, a1), (2, a2), (4, .int .i64 ((i : Nat) : Int)), (5, .int .i64 (((j + 1) : Nat) : Int)), (89, .bool false)] trivial ?_
       refine RP_nil <| n_then <| W_false rfl ?_
       refine W_pick [0, 1, 2, 4, 5] (by kernel_rfl : pick _ _ = some [(0, .func (.yield l) #[] #[]), (1, a1), (2, a2), (4, .int .i64 ((i : Nat) : Int)), (5, .int .i64 (((j + 1) : Nat) : Int))]) ?_
       refine W_skip <| n_block ?_
       exact ⟨_, by omega, i, (j + 1), (pre ++ [(Ent.zero, (B.getD j Ent.zero))]), rfl, rfl, hj, by omega, by omega, by rw [← hpre, hstep, List.append_assoc]; rfl⟩
     ·
      refine W_seq <| W_regionS ⟨(fun w' => Blk w' g1 22 [a94].toArray ∧ Blk w' g2 22 [a93].toArray ∧ InS w' ba (entCells A) ∧ InS w' bb (entCells B)), (fun _ => True)⟩ (.cons 1 0 (.cons 1 1 (.cons 1 2 (.cons 1 3 (.cons 1 4 (.cons 1 5 (.cons 1 6 (.cons 1 7 (.cons 2 8 (.cons 3 9 .nil)))))))))) 10 (by kernel_rfl) (by kernel_rfl) ?_
      have st104 := st92.drew
      refine RS_sg 2 [.l 22 a1 a94, .p (.int .i64 ((i : Nat) : Int))] [(0, .func (.yield l) #[] #[]), (1, a1), (2, a2), (4, .int .i64 ((i : Nat) : Int)), (5, .int .i64 ((j : Nat) : Int)), (6, a11), (7, a12), (8, a94), (9, .int .i64 ((i : Nat) : Int))] (⟨hp.b1.ext st104.ext List.not_mem_nil, hp.b2.ext st104.ext List.not_mem_nil, hp.ia.ext0 st104.ext, hp.ib.ext0 st104.ext⟩) (fun _ hS => ⟨ld1b (hS.1) nagg_22 rfl, trivial⟩) ?_
      refine RS_q rfl rfl (⟨hp.b1.ext st104.ext List.not_mem_nil, hp.b2.ext st104.ext List.not_mem_nil, hp.ia.ext0 st104.ext, hp.ib.ext0 st104.ext⟩) (v := .pointer (some ⟨(sp ba), so ba + i * 5, none⟩)) (fun _ _ => ev_indexI idxEnt rfl rfl (hp.ia.some_ (by rw [entCells_len]; omega)) (by omega)) ?_
      let a105 : Value := .agg #[.string ((A.getD i Ent.zero).key), .int .i64 ((A.getD i Ent.zero).c), .int .i64 ((A.getD i Ent.zero).n), .string ((A.getD i Ent.zero).val), .bool ((A.getD i Ent.zero).dead)]
      refine RS_sg 3 [.l 61 (.pointer (some ⟨(sp ba), so ba + i * 5, none⟩)) a105, .l 22 a2 a93, .p (.int .i64 ((j : Nat) : Int))] [(0, .func (.yield l) #[] #[]), (1, a1), (2, a2), (4, .int .i64 ((i : Nat) : Int)), (5, .int .i64 ((j : Nat) : Int)), (6, a11), (7, a12), (11, a105), (12, a93), (13, .int .i64 ((j : Nat) : Int))] (⟨hp.b1.ext st104.ext List.not_mem_nil, hp.b2.ext st104.ext List.not_mem_nil, hp.ia.ext0 st104.ext, hp.ib.ext0 st104.ext⟩) (fun _ hS => ⟨(InS.loadN agg_61 (hS.2.2.1) (entCells_at (getD_some (by omega))) rfl (by decide)), ld1b (hS.2.1) nagg_22 rfl, trivial⟩) ?_
      refine RS_q rfl rfl (⟨hp.b1.ext st104.ext List.not_mem_nil, hp.b2.ext st104.ext List.not_mem_nil, hp.ia.ext0 st104.ext, hp.ib.ext0 st104.ext⟩) (v := .pointer (some ⟨(sp bb), so bb + j * 5, none⟩)) (fun _ _ => ev_indexI idxEnt rfl rfl (hp.ib.some_ (by rw [entCells_len]; omega)) (by omega)) ?_
      let a106 : Value := .agg #[.string ((B.getD j Ent.zero).key), .int .i64 ((B.getD j Ent.zero).c), .int .i64 ((B.getD j Ent.zero).n), .string ((B.getD j Ent.zero).val), .bool ((B.getD j Ent.zero).dead)]
      refine RS_sg 1 [.l 61 (.pointer (some ⟨(sp bb), so bb + j * 5, none⟩)) a106] [(0, .func (.yield l) #[] #[]), (1, a1), (2, a2), (4, .int .i64 ((i : Nat) : Int)), (5, .int .i64 ((j : Nat) : Int)), (6, a11), (7, a12), (11, a105), (15, a106)] (⟨hp.b1.ext st104.ext List.not_mem_nil, hp.b2.ext st104.ext List.not_mem_nil, hp.ia.ext0 st104.ext, hp.ib.ext0 st104.ext⟩) (fun _ hS => ⟨(InS.loadN agg_61 (hS.2.2.2) (entCells_at (getD_some (by omega))) rfl (by decide)), trivial⟩) ?_
      refine RS_e rfl rfl (ef_store st104 rfl rfl rfl size_61 1 rfl rfl rfl rfl (.inr hgx)) ?_
      rintro _ w107 ⟨rfl, st108, hx109⟩
      replace st108 : St [] w4 w107 [(gy, 61, [.string (⟨#[]⟩ : ByteArray), .int .i64 0, .int .i64 0, .string (⟨#[]⟩ : ByteArray), .bool false]), (gx, 61, [.string ((A.getD i Ent.zero).key), .int .i64 ((A.getD i Ent.zero).c), .int .i64 ((A.getD i Ent.zero).n), .string ((A.getD i Ent.zero).val), .bool ((A.getD i Ent.zero).dead)])] := st108
      refine ⟨⟨hp.b1.ext st108.ext List.not_mem_nil, hp.b2.ext st108.ext List.not_mem_nil, hp.ia.ext0 st108.ext, hp.ib.ext0 st108.ext⟩, ?_⟩
      refine RS_f rfl rfl (ef_store st108 rfl rfl rfl size_61 0 rfl rfl rfl rfl (.inr hgy)) ?_
      rintro _ w110 ⟨rfl, st111, hx112⟩
      replace st111 : St [] w4 w110 [(gy, 61, [.string ((B.getD j Ent.zero).key), .int .i64 ((B.getD j Ent.zero).c), .int .i64 ((B.getD j Ent.zero).n), .string ((B.getD j Ent.zero).val), .bool ((B.getD j Ent.zero).dead)]), (gx, 61, [.string ((A.getD i Ent.zero).key), .int .i64 ((A.getD i Ent.zero).c), .int .i64 ((A.getD i Ent.zero).n), .string ((A.getD i Ent.zero).val), .bool ((A.getD i Ent.zero).dead)])] := st111
      refine RS_pk [(0, .func (.yield l) #[] #[]), (1, a1), (2, a2), (4, .int .i64 ((i : Nat) : Int)), (5, .int .i64 ((j : Nat) : Int)), (6, a11), (7, a12)] ?_
      refine RS_nil <| n_then <| W_region <| RP_sg 2 [.p (.int .i64 ((i : Nat) : Int)), .p (.int .i64 (IntKind.i64.wrap (((i : Nat) : Int) + 1)))] [(0, .func (.yield l) #[] #[]), (1, a1), (2, a2), (5, .int .i64 ((j : Nat) : Int)), (6, a11), (7, a12), (17, .int .i64 (IntKind.i64.wrap (((i : Nat) : Int) + 1)))] trivial ?_
      refine RP_at (m' := [(0, .func (.yield l) #[] #[]), (1, a1), (2, a2), (5, .int .i64 ((j : Nat) : Int)), (6, a11), (7, a12), (17, .int .i64 (((i + 1) : Nat) : Int))]) (by rw [inc_i (m := A.length) (by omega) hA]) ?_
      refine RP_sg 2 [.p (.int .i64 ((j : Nat) : Int)), .p (.int .i64 (IntKind.i64.wrap (((j : Nat) : Int) + 1)))] [(0, .func (.yield l) #[] #[]), (1, a1), (2, a2), (6, a11), (7, a12), (17, .int .i64 (((i + 1) : Nat) : Int)), (19, .int .i64 (IntKind.i64.wrap (((j : Nat) : Int) + 1)))] trivial ?_
      refine RP_at (m' := [(0, .func (.yield l) #[] #[]), (1, a1), (2, a2), (6, a11), (7, a12), (17, .int .i64 (((i + 1) : Nat) : Int)), (19, .int .i64 (((j + 1) : Nat) : Int))]) (by rw [inc_i (m := B.length) (by omega) hB]) ?_
      refine RP_sg 2 [.p (.int .i64 (((i + 1) : Nat) : Int)), .p (.int .i64 (((j + 1) : Nat) : Int))] [(0, .func (.yield l) #[] #[]), (1, a1), (2, a2), (4, .int .i64 (((i + 1) : Nat) : Int)), (5, .int .i64 (((j + 1) : Nat) : Int)), (6, a11), (7, a12)] trivial ?_
      refine RP_nil <| n_block <| n_then <| W_seq <| W_region <| RP_sg 3 [.p (.func (.yield l) #[] #[]), .l 61 a11 a105, .l 61 a12 a106] [(0, .func (.yield l) #[] #[]), (1, a1), (2, a2), (4, .int .i64 (((i + 1) : Nat) : Int)), (5, .int .i64 (((j + 1) : Nat) : Int)), (85, .func (.yield l) #[] #[]), (86, a105), (87, a106)] ⟨ldN st111 agg_61 1 rfl rfl rfl, ldN st111 agg_61 0 rfl rfl rfl, trivial⟩ ?_
      have hstep : pairsL (A.drop i) (B.drop j) = ((A.getD i Ent.zero), (B.getD j Ent.zero)) :: pairsL (A.drop (i + 1)) (B.drop (j + 1)) := pairs_xy (by omega) (by omega) (by exfalso; omega) c61_95
      have hpf : pre ++ [((A.getD i Ent.zero), (B.getD j Ent.zero))] <+: pairsL A B := by rw [← hpre, hstep]; exact ⟨_, by rw [List.append_assoc]; rfl⟩
      refine RP_y rfl (ef_yield (hY _ ((A.getD i Ent.zero), (B.getD j Ent.zero)) _ ((hJ _) _ _ hj (Grow.of_ext st111.ext)) hpf) rfl rfl) ?_
      rintro _ w113 ⟨b_, rfl, -, hj⟩
      cases b_
      ·
       replace hj : Jx w113 := hj
       have st114 := St.init w113 []
       refine RP_sg 1 [.p (.bool true)] [(0, .func (.yield l) #[] #[]), (1, a1), (2, a2), (4, .int .i64 (((i + 1) : Nat) : Int)), (5, .int .i64 (((j + 1) : Nat) : Int)), (89, .bool true)] trivial ?_
       refine RP_nil <| n_then <| W_true rfl ?_
       refine W_ret <| r_block <| r_loop <| r_block <| r_scope ?_
       refine ret_of (P := Tryd.prog) (fn := Tryd.f152) (m := [(0, .func (.yield l) #[] #[]), (1, .pointer (some ⟨g1, 0, none⟩)), (2, .pointer (some ⟨g2, 0, none⟩)), (4, .int .i64 (((i + 1) : Nat) : Int)), (5, .int .i64 (((j + 1) : Nat) : Int)), (89, .bool true)]) (w := w113) (res0 rfl ) ?_
       exact .inr hj
      ·
       replace hj : J _ w113 := hj
       have st115 := St.init w113 []
       refine RP_sg 1 [.p (.bool false)] [(0, .func (.yield l) #[] #[]), (1, a1), (2, a2), (4, .int .i64 (((i + 1) : Nat) : Int)), (5, .int .i64 (((j + 1) : Nat) : Int)), (89, .bool false)] trivial ?_
       refine RP_nil <| n_then <| W_false rfl ?_
       refine W_pick [0, 1, 2, 4, 5] (by kernel_rfl : pick _ _ = some [(0, .func (.yield l) #[] #[]), (1, a1), (2, a2), (4, .int .i64 (((i + 1) : Nat) : Int)), (5, .int .i64 (((j + 1) : Nat) : Int))]) ?_
       refine W_skip <| n_block ?_
       exact ⟨_, by omega, (i + 1), (j + 1), (pre ++ [((A.getD i Ent.zero), (B.getD j Ent.zero))]), rfl, rfl, hj, by omega, by omega, by rw [← hpre, hstep, List.append_assoc]; rfl⟩
end Go.Proofs.YtcopemgkjbaaeaaDoor
namespace Go.Proofs.YtcopemgkjbaaeaaDoor
set_option linter.all false
open Go.RowKit
theorem St.addNew {X : List Nat} {w0 w w' : World} {M : List (Nat × TypeId × List Value)} (st : St X w0 w M) (hx : Ext [] w w') {g : Nat} {t : TypeId} {cs : List Value} (hb : Blk w' g t cs.toArray) (hg : w.heap.size ≤ g) : St X w0 w' ((g, t, cs) :: M) :=
  (st.call0 hx).add hb fun hm => by
    obtain ⟨b, h1, h2⟩ := List.mem_map.1 hm
    have := (st.blk b h1).lt
    omega
theorem St.addNew2 {X : List Nat} {w0 w w' : World} {M : List (Nat × TypeId × List Value)} (st : St X w0 w M) (hx : Ext [] w w') {g g' : Nat} {t t' : TypeId} {cs cs' : List Value} (hb : Blk w' g t cs.toArray) (hb' : Blk w' g' t' cs'.toArray) (hg : w.heap.size ≤ g) (hg' : w.heap.size ≤ g') (hne : g ≠ g') :
    St X w0 w' ((g, t, cs) :: (g', t', cs') :: M) :=
  (st.addNew hx hb' hg').add hb fun hm => by
    simp only [List.map_cons, List.mem_cons] at hm
    rcases hm with rfl | hm
    · exact hne rfl
    · obtain ⟨b, h1, h2⟩ := List.mem_map.1 hm
      have := (st.blk b h1).lt
      omega
theorem pairs_cr {w : World} {ba bb : Option Addr} {ca cb : Nat} (A B : List Ent) :
    CR Tryd.prog 138 [.slice ba A.length ca, .slice bb B.length cb] w fun v w' => ∃ g1 g2, v = .func (.func 152) #[] #[.pointer (some ⟨g1, 0, none⟩), .pointer (some ⟨g2, 0, none⟩)] ∧
      Blk w' g1 22 #[.slice ba A.length ca] ∧ Blk w' g2 22 #[.slice bb B.length cb] ∧ w.heap.size ≤ g1 ∧ w.heap.size ≤ g2 ∧ g1 ≠ g2 ∧ Ext [] w w' := by
  have st := St.init w []
  refine CR_enter Tryd.func138 rfl Tryd.ntmps138 rfl ?_
  refine W_seq <| W_region <| RP_e rfl (ef_box st rfl rfl) ?_
  rintro _ w1 ⟨g1, rfl, hg1, hg1', st2, hx3⟩
  replace st2 : St [] w w1 [(g1, 22, [.slice ba A.length ca])] := st2
  refine RP_e rfl (ef_box st2 rfl rfl) ?_
  rintro _ w4 ⟨g2, rfl, hg2, hg2', st5, hx6⟩
  replace st5 : St [] w w4 [(g2, 22, [.slice bb B.length cb]), (g1, 22, [.slice ba A.length ca])] := st5
  let a7 : Value := .pointer (some ⟨g1, 0, none⟩)
  let a8 : Value := .pointer (some ⟨g2, 0, none⟩)
  refine RP_sg 1 [.p .nilFunc] [(2, a7), (3, a8)] trivial ?_
  refine RP_nil <| n_then <| W_seq <| W_region ?_
  let a9 : Value := .func (.func 152) #[] #[a7, a8]
  refine RP_sg 2 [.p a9, .p a9] [(4, a9)] trivial ?_
  refine RP_nil <| n_then <| W_ret <| ret_of (P := Tryd.prog) (fn := Tryd.f138) (m := [(4, .func (.func 152) #[] #[.pointer (some ⟨g1, 0, none⟩), .pointer (some ⟨g2, 0, none⟩)])]) (w := w4) (res1 rfl (rv_tmp rfl)) ?_
  exact ⟨g1, g2, rfl, st5.get 1 rfl, st5.get 0 rfl, hg1, hg2, by have h := st5.nodup; simp at h; exact fun e => h e.symm, st5.ext⟩
def lackP (p : Ent × Ent) : Bool := there p.1 && newer p.1 p.2
def lackF (l : List (Ent × Ent)) : List Ent := (l.filter lackP).map (·.1)
def lacksL (A B : List Ent) : List Ent := lackF (pairsL A B)
theorem lackF_snoc (l : List (Ent × Ent)) (p : Ent × Ent) : lackF (l ++ [p]) = lackF l ++ cond (lackP p) [p.1] [] := by
  unfold lackF
  rw [List.filter_append, List.map_append]
  cases h : lackP p <;> simp [h]
theorem lackF_le (l : List (Ent × Ent)) : (lackF l).length ≤ l.length := by
  unfold lackF
  rw [List.length_map]; exact List.length_filter_le _ _
theorem lacks_cr {w : World} {ba bb : Option Addr} {ca cb : Nat} (A B : List Ent) (hA : InS w ba (entCells A)) (hB : InS w bb (entCells B)) (lA : A.length ≤ 10000) (lB : B.length ≤ 10000) :
    CR Tryd.prog 108 [.slice ba A.length ca, .slice bb B.length cb] w fun v w' => ∃ d f, v = .tuple #[.slice d (cond (chk2 A B != 0) [] (lacksL A B)).length f, .int .i64 (chk2 A B)] ∧
      Acc w [] w' 61 5 (.slice d (cond (chk2 A B != 0) [] (lacksL A B)).length f) (cond (chk2 A B != 0) [] (lacksL A B)).length (entCells (cond (chk2 A B != 0) [] (lacksL A B))) ∧ Ext [] w w' := by
  have st := St.init w []
  refine CR_enter Tryd.func108 rfl Tryd.ntmps108 rfl ?_
  refine W_seq <| W_region ?_
  let a1 : Value := .slice ba A.length ca
  let a2 : Value := .slice bb B.length cb
  let a3 : Value := .slice none 0 0
  refine RP_sg 2 [.p a3, .p (.int .i64 0)] [(0, a1), (1, a2), (4, a3), (5, .int .i64 0)] trivial ?_
  refine RP_nil <| n_then <| W_seq <| W_seq <| W_region <| RP_sg 2 [.p a1, .p a2] [(0, a1), (1, a2), (4, a3), (5, .int .i64 0), (10, a1), (11, a2)] trivial ?_
  refine RP_e rfl (ef_call (k := 137) (args := [a1, a2]) (mergecheck2_cr A B (hA.ext0 st.ext) (hB.ext0 st.ext) (by omega) (by omega)) body_137 (by kernel_rfl)) ?_
  rintro _ w4 ⟨_, rfl, rfl, hx6⟩
  have st5 := st.call0 hx6
  refine RP_sg 1 [.p (.int .i64 (chk2 A B))] [(0, a1), (1, a2), (4, a3), (5, .int .i64 0), (6, .int .i64 (chk2 A B))] trivial ?_
  refine RP_nil <| n_then <| W_seq <| W_region <| RP_sg 2 [.p (.int .i64 (chk2 A B)), .p (.bool ((chk2 A B) != 0))] [(0, a1), (1, a2), (4, a3), (5, .int .i64 0), (6, .int .i64 (chk2 A B)), (14, .bool ((chk2 A B) != 0))] trivial ?_
  refine RP_nil <| n_then <| W_cond rfl (fun c14_7 => ?_) (fun c14_7 => ?_)
  ·
   refine W_seq <| W_region <| RP_sg 3 [.p (.int .i64 (chk2 A B)), .p a3, .p (.int .i64 (chk2 A B))] [(4, a3), (5, .int .i64 (chk2 A B))] trivial ?_
   refine RP_nil <| n_then <| W_ret <| r_then ?_
   refine ret_of (P := Tryd.prog) (fn := Tryd.f108) (m := [(4, .slice none 0 0), (5, .int .i64 (chk2 A B))]) (w := w4) (res2 rfl (rv_tmp rfl) (rv_tmp rfl)) ?_
   exact ⟨none, 0, by rw [c14_7]; rfl, by rw [c14_7]; exact Acc.nil _ _ _ _ _, st5.ext⟩
  ·
   refine W_skip <| n_then <| W_seq <| W_region <| RP_e rfl (ef_alloc st5 zero_22 rfl) ?_
   rintro _ w8 ⟨g7, rfl, hg7, hg7', st9, hx10⟩
   replace st9 : St [] w w8 [(g7, 22, [.slice none 0 0])] := st9
   let a11 : Value := .pointer (some ⟨g7, 0, none⟩)
   refine RP_pk [(0, a1), (1, a2), (4, a3), (5, .int .i64 0), (7, a11)] ?_
   refine RP_nil <| n_then <| W_seq <| W_seq <| W_region <| RP_sg 2 [.p a1, .p a2] [(4, a3), (5, .int .i64 0), (7, a11), (16, a1), (17, a2)] trivial ?_
   refine RP_e rfl (ef_call (k := 138) (args := [a1, a2]) (pairs_cr A B) body_138 (by kernel_rfl)) ?_
   rintro _ w12 ⟨_, rfl, g1, g2, rfl, hb1, hb2, hg1, hg2, hg12, hx14⟩
   have st13 := st9.call0 hx14
   have hM := St.addNew2 st9 hx14 hb1 hb2 hg1 hg2 hg12
   have st15 : St [] w w12 [(g1, 22, [.slice ba A.length ca]), (g2, 22, [.slice bb B.length cb]), (g7, 22, [.slice none 0 0])] := hM
   let a16 : Value := .func (.func 152) #[] #[.pointer (some ⟨g1, 0, none⟩), .pointer (some ⟨g2, 0, none⟩)]
   refine RP_pk [(4, a3), (5, .int .i64 0), (7, a11), (18, a16)] ?_
   refine RP_nil <| n_then <| W_block ?_
   have hBl17 := st15.ext.size
   refine W_range (encs := (fun p : Ent × Ent => [p.1.v, p.2.v])) (xs := (pairsL A B)) (pairs_it (ba := ba) (bb := bb) (ca := ca) (cb := cb) (A := A) (B := B) (by omega) (by omega)) rfl body_152 (fun _ => rfl) (by kernel_rfl) (fun (pre : List (Ent × Ent)) (w_ : World) => ∃ (b : Option Addr) (c : Nat), St [] w w_ [(g1, 22, [.slice ba A.length ca]), (g2, 22, [.slice bb B.length cb]), (g7, 22, [.slice b ((lackF pre).length) c])] ∧ Acc w [] w_ 61 5 (.slice b (lackF pre).length c) (lackF pre).length (entCells (lackF pre))) (fun _ _ => False) ?_ ?_ ?_ ?_ ?_ ?_ ?_ ?_
   · rintro pre A_ B_ ⟨b, c, hst_, hac⟩ hg_
     exact ⟨b, c, hst_.grow hg_ hBl17, hac.grow hg_⟩
   · exact fun _ _ _ h _ => h
   · rintro pre w_ ⟨b, c, hst_, hac⟩
     exact ⟨hst_.get 0 rfl, hst_.get 1 rfl, hA.ext0 hst_.ext, hB.ext0 hst_.ext⟩
   · exact fun _ _ h => h.elim
   · exact ⟨none, 0, st15, Acc.nil _ _ _ _ _⟩
   · -- a round
    rintro l_ pre x w18 ⟨b, c, st19, hac⟩ hpre_ hle_
    have hlo := ownsRow.lt hac.own
    have hpl : (lackF pre).length ≤ 100000 := by have h1 := hpre_.length_le; have h2 := pairsL_le (A.length + B.length) A B; have h3 := lackF_le pre; simp at h1; unfold pairsL at h1; omega
    have hkn := KeepsN.refl (w12).heap.size w18
    refine W_pick [7, 19, 20] (by kernel_rfl : pick _ _ = some [(7, a11), (19, .agg #[.string x.1.key, .int .i64 x.1.c, .int .i64 x.1.n, .string x.1.val, .bool x.1.dead]), (20, .agg #[.string x.2.key, .int .i64 x.2.c, .int .i64 x.2.n, .string x.2.val, .bool x.2.dead])]) ?_
    refine W_seq <| W_region <| RP_e rfl (ef_alloc st19 zero_61 rfl) ?_
    rintro _ w20 ⟨g8, rfl, hg8, hg8', st21, hx22⟩
    replace st21 : St [] w w20 [(g8, 61, [.string (⟨#[]⟩ : ByteArray), .int .i64 0, .int .i64 0, .string (⟨#[]⟩ : ByteArray), .bool false]), (g1, 22, [.slice ba A.length ca]), (g2, 22, [.slice bb B.length cb]), (g7, 22, [.slice b ((lackF pre).length) c])] := st21
    replace hac := hac.ext hx22 (by simp)
    replace hkn := hkn.ext0 hx22
    refine RP_e rfl (ef_store st21 rfl rfl rfl size_61 0 rfl rfl rfl rfl (.inr hg8)) ?_
    rintro _ w23 ⟨rfl, st24, hx25⟩
    replace st24 : St [] w w23 [(g8, 61, [.string x.1.key, .int .i64 x.1.c, .int .i64 x.1.n, .string x.1.val, .bool x.1.dead]), (g1, 22, [.slice ba A.length ca]), (g2, 22, [.slice bb B.length cb]), (g7, 22, [.slice b ((lackF pre).length) c])] := st24
    replace hac := hac.ext hx25 (fun q hq hm => by simp only [List.mem_singleton] at hm; have := (hlo q hq).1; omega)
    replace hkn := hkn.ext1 hx25 (st21.get 0 rfl) rfl
    let a26 : Value := .pointer (some ⟨g8, 0, none⟩)
    let a27 : Value := .agg #[.string x.2.key, .int .i64 x.2.c, .int .i64 x.2.n, .string x.2.val, .bool x.2.dead]
    refine RP_pk [(7, a11), (8, a26), (20, a27)] ?_
    refine RP_nil <| n_then ?_
    have hg8lt := st24.lt 0 rfl
    refine W_region <| RP_e rfl (ef_alloc st24 zero_61 rfl) ?_
    rintro _ w28 ⟨g9, rfl, hg9, hg9', st29, hx30⟩
    replace st29 : St [] w w28 [(g9, 61, [.string (⟨#[]⟩ : ByteArray), .int .i64 0, .int .i64 0, .string (⟨#[]⟩ : ByteArray), .bool false]), (g8, 61, [.string x.1.key, .int .i64 x.1.c, .int .i64 x.1.n, .string x.1.val, .bool x.1.dead]), (g1, 22, [.slice ba A.length ca]), (g2, 22, [.slice bb B.length cb]), (g7, 22, [.slice b ((lackF pre).length) c])] := st29
    replace hac := hac.ext hx30 (by simp)
    replace hkn := hkn.ext0 hx30
    refine RP_e rfl (ef_store st29 rfl rfl rfl size_61 0 rfl rfl rfl rfl (.inr hg9)) ?_
    rintro _ w31 ⟨rfl, st32, hx33⟩
    replace st32 : St [] w w31 [(g9, 61, [.string x.2.key, .int .i64 x.2.c, .int .i64 x.2.n, .string x.2.val, .bool x.2.dead]), (g8, 61, [.string x.1.key, .int .i64 x.1.c, .int .i64 x.1.n, .string x.1.val, .bool x.1.dead]), (g1, 22, [.slice ba A.length ca]), (g2, 22, [.slice bb B.length cb]), (g7, 22, [.slice b ((lackF pre).length) c])] := st32
    replace hac := hac.ext hx33 (fun q hq hm => by simp only [List.mem_singleton] at hm; have := (hlo q hq).1; omega)
    replace hkn := hkn.ext1 hx33 (st29.get 0 rfl) rfl
    let a34 : Value := .pointer (some ⟨g9, 0, none⟩)
    refine RP_pk [(7, a11), (8, a26), (9, a34)] ?_
    refine RP_nil <| assign_end hkn (fun w35 hg36 => ?_)
    have st37 := st32.grow hg36 (hBl17)
    replace hac := hac.grow hg36
    replace hkn := KeepsN.refl (w12).heap.size w35
    refine W_block <| W_seq <| W_region ?_
    let a38 : Value := .agg #[.string x.1.key, .int .i64 x.1.c, .int .i64 x.1.n, .string x.1.val, .bool x.1.dead]
    refine RP_sg 1 [.l 61 a26 a38] [(7, a11), (8, a26), (9, a34), (21, a38)] ⟨ldN st37 agg_61 1 rfl rfl rfl, trivial⟩ ?_
    refine RP_e rfl (ef_call (k := 139) (args := [a38]) (there_cr x.1 _) body_139 (by kernel_rfl)) ?_
    rintro _ w39 ⟨_, rfl, rfl, hx41⟩
    have st40 := st37.call0 hx41
    replace hac := hac.ext hx41 (by simp)
    replace hkn := hkn.ext0 hx41
    refine RP_sg 1 [.p (.bool (there x.1))] [(7, a11), (8, a26), (9, a34), (23, .bool (there x.1))] trivial ?_
    rcases Bool.eq_false_or_eq_true (there x.1) with c23_42 | c23_42
    ·
     refine RP_at (m' := [(7, a11), (8, a26), (9, a34), (23, .bool true)]) (by rw [c23_42]) ?_
     refine RP_sg 2 [.l 61 a26 a38, .l 61 a34 a27] [(7, a11), (8, a26), (23, .bool true), (24, a38), (25, a27)] ⟨ldN st40 agg_61 1 rfl rfl rfl, ldN st40 agg_61 0 rfl rfl rfl, trivial⟩ ?_
     refine RP_ge rfl rfl (ef_call (k := 66) (args := [a38, a27]) (newer_cr x.1 x.2 _) body_66 (by kernel_rfl)) ?_
     rintro _ w43 ⟨_, rfl, rfl, hx45⟩
     have st44 := st40.call0 hx45
     replace hac := hac.ext hx45 (by simp)
     replace hkn := hkn.ext0 hx45
     refine RP_sg 1 [.p (.bool (newer x.1 x.2))] [(7, a11), (8, a26), (27, .bool (newer x.1 x.2))] trivial ?_
     refine RP_nil <| n_then <| W_cond rfl (fun c27_46 => ?_) (fun c27_46 => ?_)
     ·
      refine W_region ?_
      let a47 : Value := .slice b ((lackF pre).length) c
      refine RP_sg 2 [.l 22 a11 a47, .l 61 a26 a38] [(7, a11), (28, a47), (29, a38)] ⟨ld1 st44 nagg_22 4 rfl rfl, ldN st44 agg_61 1 rfl rfl rfl, trivial⟩ ?_
      refine RP_e rfl (ef_new (t := 61) (cs := [.string x.1.key, .int .i64 x.1.c, .int .i64 x.1.n, .string x.1.val, .bool x.1.dead]) (fun g => .slice (some ⟨g, 0, none⟩) 1 1) st44 rfl rfl (fun _ => by kernel_rfl)) ?_
      rintro _ w48 ⟨g51, rfl, hg51, hg51', st49, hx50⟩
      replace hac := hac.ext hx50 (by simp)
      replace hkn := hkn.ext0 hx50
      have hkown := hac.own
      refine RP_e rfl (ef_appendI appEnt (st49.sub (M' := [(g9, 61, [.string x.2.key, .int .i64 x.2.c, .int .i64 x.2.n, .string x.2.val, .bool x.2.dead]), (g8, 61, [.string x.1.key, .int .i64 x.1.c, .int .i64 x.1.n, .string x.1.val, .bool x.1.dead]), (g1, 22, [.slice ba A.length ca]), (g2, 22, [.slice bb B.length cb]), (g7, 22, [.slice b ((lackF pre).length) c])]) [] (List.sublist_cons_self _ _)) hac rfl rfl (InS.of_blk (st49.get 0 rfl)) rfl rfl (by simp only [maxLen]; omega) (by omega) (apart_cons hlo (by omega) (apart_cons hlo hg8' (Acc.apart hac ((st49.sub [] (List.sublist_cons_self _ _)).sub [] (by simp)) rfl)))) ?_
      rintro _ w52 ⟨v3, rfl, hac, st53, hx54⟩
      replace hkn := hkn.extOwn hx54 hkown rfl
      obtain ⟨b3, c3, rfl⟩ := ownsRow.form' hac.own
      refine RP_e rfl (ef_store st53 rfl rfl rfl size_22 4 rfl rfl rfl rfl (.inr hg7)) ?_
      rintro _ w55 ⟨rfl, st56, hx57⟩
      replace st56 : St [] w w55 [(g9, 61, [.string x.2.key, .int .i64 x.2.c, .int .i64 x.2.n, .string x.2.val, .bool x.2.dead]), (g8, 61, [.string x.1.key, .int .i64 x.1.c, .int .i64 x.1.n, .string x.1.val, .bool x.1.dead]), (g1, 22, [.slice ba A.length ca]), (g2, 22, [.slice bb B.length cb]), (g7, 22, [.slice b3 ((lackF pre).length + 1) c3])] := st56
      replace hac := hac.ext hx57 (hac.not_blk (st53.get 4 rfl) (by decide))
      replace hkn := hkn.ext1 hx57 (st53.get 4 rfl) rfl
      refine RP_pk [] ?_
      refine RP_nil <| n_block ?_
      have hlp : lackP x = true := by unfold lackP; rw [c23_42, c27_46]; rfl
      have hsn : lackF (pre ++ [x]) = lackF pre ++ [x.1] := by rw [lackF_snoc, hlp]; simp
      have hln : (lackF pre ++ [x.1]).length = (lackF pre).length + 1 := by simp
      exact round_end hkn ⟨b3, c3, by rw [hsn, hln]; exact st56.sub [] (by simp), by rw [hsn, hln, entCells_snoc]; exact hac⟩
     ·
      refine W_skip <| n_block ?_
      have hlp : lackP x = false := by unfold lackP; rw [c23_42, c27_46]; rfl
      have hsn : lackF (pre ++ [x]) = lackF pre := by rw [lackF_snoc, hlp]; simp
      exact round_end hkn ⟨b, c, by rw [hsn]; exact st44.sub [] (by simp), by rw [hsn]; exact hac⟩
    ·
     refine RP_at (m' := [(7, a11), (8, a26), (9, a34), (23, .bool false)]) (by rw [c23_42]) ?_
     refine RP_sg 2 [.no, .no] [(7, a11), (8, a26), (23, .bool false), (24, undef), (25, undef)] trivial ?_
     refine RP_no rfl rfl (by decide) ?_
     refine RP_sg 1 [.p (.bool false)] [(7, a11), (8, a26), (27, .bool false)] trivial ?_
     refine RP_nil <| n_then <| W_false rfl ?_
     refine W_skip <| n_block ?_
     have hlp : lackP x = false := by unfold lackP; rw [c23_42]; rfl
     have hsn : lackF (pre ++ [x]) = lackF pre := by rw [lackF_snoc, hlp]; simp
     exact round_end hkn ⟨b, c, by rw [hsn]; exact st40.sub [] (by simp), by rw [hsn]; exact hac⟩
   · -- all have come
    rintro D58 w59 hD58w ⟨b, c, st60, hac⟩ hD58
    replace hD58w := Nat.le_trans hBl17 hD58w
    replace hD58 : IsDef w59 D58 := hD58
    refine n_block <| n_then <| W_seq <| W_region ?_
    let a61 : Value := .slice b ((lackF (pairsL A B)).length) c
    refine RP_sg 3 [.l 22 a11 a61, .p a61, .p (.int .i64 0)] [(4, a61), (5, .int .i64 0), (1000000, .pointer (some ⟨D58, 0, none⟩))] ⟨ld1 st60 nagg_22 2 rfl rfl, trivial⟩ ?_
    let a62 : Value := .pointer (some ⟨D58, 0, none⟩)
    refine RP_pk [(4, a61), (5, .int .i64 0), (1000000, a62)] ?_
    refine RP_nil <| n_then <| W_ret <| ret_ofM (P := Tryd.prog) (fn := Tryd.f108) (m := [(4, .slice b ((lackF (pairsL A B)).length) c), (5, .int .i64 0), (1000000, .pointer (some ⟨D58, 0, none⟩))]) (w := w59) (D := D58) rfl hD58 (fun w63 hg64 => ?_)
    have st65 := st60.grow hg64 (hD58w)
    replace hac := hac.grow hg64
    have hz : chk2 A B = 0 := by simpa using c14_7
    refine ⟨_, res2 rfl (rv_tmp rfl) (rv_tmp rfl), ?_⟩
    exact ⟨b, c, by rw [c14_7, hz]; rfl, by rw [c14_7]; exact hac, st65.ext⟩
   · -- it was left
    exact fun _ _ _ _ h _ => h.elim
end Go.Proofs.YtcopemgkjbaaeaaDoor
