import Derived.Test.YtcopemgkjbaaeaaDoorMm5
import Derived.Test.YtcopemgkjbaaeaaDoorMm3
import Derived.Test.YtcopemgkjbaaeaaDoorMm4
namespace Go.Proofs.YtcopemgkjbaaeaaDoor
set_option linter.all false
open Go.RowKit
theorem InS.extd {w w' : World} {X : List Nat} {b : Option Addr} {cs : List Value} (h : InS w b cs) (hx : Ext X w w') (hX : cs = [] ∨ sp b ∉ X) : InS w' b cs := by
  rcases hX with rfl | hX
  · exact .inl rfl
  · exact h.ext hx hX
theorem Acc.apartS {w0 w : World} {X : List Nat} {e : TypeId} {size k : Nat} {v : Value} {xs : List Value} {gs bm bt : Nat} {p : Option Addr} {node clock j : Int} {t : T} (h : Acc w0 X w e size v k xs) (hS : Sto w gs bm bt p node clock j t)
    (he : (e != 179 && (e != 205 && e != 129)) = true) : ∀ g ∈ ownB v, g ∉ [gs, bt, bm] := by
  simp only [Bool.and_eq_true, bne_iff_ne, ne_eq] at he
  intro g hg hm
  simp only [List.mem_cons, List.not_mem_nil, or_false] at hm
  rcases hm with rfl | rfl | rfl
  · exact ownsRow.not_blk h.own hS.blk he.2.2 hg
  · exact ownsRow.not_blk h.own hS.tr.t he.1 hg
  · exact ownsRow.not_blk h.own hS.tr.m he.2.1 hg
structure Hd where
  t : T
  clock : Int
  tk : Nat
  rf : Nat
def Hd.step (s : Hd) (e : Ent) : Hd := cond (takeErr s.t e == 80) ⟨s.t, s.clock, s.tk, s.rf + 1⟩ (cond (takes s.t e) ⟨T.put e s.t, max s.clock e.c, s.tk + 1, s.rf⟩ s)
def Hd.all (s : Hd) (l : List Ent) : Hd := l.foldl Hd.step s
theorem Hd.all_succ {s : Hd} {l : List Ent} {i : Nat} {e : Ent} (he : l[i]? = some e) : s.all (l.take (i + 1)) = (s.all (l.take i)).step e := by
  unfold Hd.all
  rw [List.take_succ, he]; simp
theorem Hd.step_size (s : Hd) (e : Ent) : (s.step e).t.size ≤ s.t.size + 1 ∧ (s.step e).tk ≤ s.tk + 1 ∧ (s.step e).rf ≤ s.rf + 1 := by
  unfold Hd.step
  have := T.put_size e s.t
  cases takeErr s.t e == 80 <;> cases takes s.t e <;> simp only [cond_true, cond_false] <;> omega
theorem Hd.all_size : ∀ (l : List Ent) (s : Hd), (s.all l).t.size ≤ s.t.size + l.length ∧ (s.all l).tk ≤ s.tk + l.length ∧ (s.all l).rf ≤ s.rf + l.length
  | [], s => by simp [Hd.all]
  | e :: l, s => by
    have h1 := Hd.step_size s e
    have h2 := Hd.all_size l (s.step e)
    have e2 : s.all (e :: l) = (s.step e).all l := rfl
    rw [e2, List.length_cons]; omega
theorem takes_no80 {t : T} {e : Ent} (h : takeErr t e = 80) : takes t e = false := by
  unfold takes
  unfold takeErr at h
  cases h1 : e.check != 0
  · rw [h1] at h
    cases h2 : t.fullB e.key
    · rw [h2] at h; cases h
    · cases (e.check == 0) <;> rfl
  · have : (e.check == 0) = false := by simpa using h1
    rw [this]; rfl
def lackE (t : T) (p : Prt) : List Ent := cond (p.k == 2) (cond (chk2 (t.rowsR p.r) p.es != 0) [] (lacksL (t.rowsR p.r) p.es)) []
def exOut (t : T) (p : Prt) (eb : Option Addr) (ec : Nat) : List Prt := cond (decide (((lackE t p).length : Int) > 0)) [⟨3, p.r, Tal.zero, lackE t p, eb, ec⟩] []
theorem lackE_le (t : T) (p : Prt) : (lackE t p).length ≤ t.size + p.es.length := by
  unfold lackE
  cases p.k == 2
  · exact Nat.zero_le _
  simp only [cond_true]
  cases chk2 (t.rowsR p.r) p.es != 0
  · have h1 := lackF_le (pairsL (t.rowsR p.r) p.es)
    have h2 := pairsL_le ((t.rowsR p.r).length + p.es.length) (t.rowsR p.r) p.es
    have h3 := T.rowsR_le t p.r
    unfold lacksL
    unfold pairsL at *
    simp only [cond_false]; omega
  · exact Nat.zero_le _
theorem Acc.since {w0 w1 w' : World} {e : TypeId} {size k : Nat} {v : Value} {xs : List Value} (h : Acc w1 [] w' e size v k xs) (hs : w0.heap.size ≤ w1.heap.size) : Acc w0 [] w' e size v k xs := ⟨h.own, fun q hq => (h.inn q hq).imp id (Nat.le_trans hs)⟩
theorem Acc.strip {w0 w : World} {e : TypeId} {size k : Nat} {v : Value} {xs : List Value} {gs bm bt : Nat} {p : Option Addr} {node clock j : Int} {t : T} (h : Acc w0 [gs, bt, bm] w e size v k xs) (hS : Sto w gs bm bt p node clock j t)
    (he : (e != 179 && (e != 205 && e != 129)) = true) : Acc w0 [] w e size v k xs := ⟨h.own, fun q hq => .inr ((h.inn q hq).resolve_left (h.apartS hS he q hq))⟩
theorem exchange_cr {w : World} {gs bm bt : Nat} {q : Option Addr} {node clock j : Int} {t : T} (p : Prt) (hl : Lanes w) (hS : Sto w gs bm bt q node clock j t) (hs : t.size ≤ 1000) (hin : InS w p.eb (entCells p.es)) (hes : p.es.length ≤ 1000) (hsep : entCells p.es = [] ∨ sp p.eb ∉ [gs, bt, bm]) :
    CR Tryd.prog 51 [.pointer (some ⟨gs, 0, none⟩), p.v] w fun v w' => ∃ d f eb ec, v = .tuple #[.slice d (exOut t p eb ec).length f, .agg #[.int .i64 ((((⟨t, clock, 0, 0⟩ : Hd).all p.es).tk : Nat) : Int), .int .i64 ((((⟨t, clock, 0, 0⟩ : Hd).all p.es).rf : Nat) : Int)]] ∧
      Acc w [] w' 34 8 (.slice d (exOut t p eb ec).length f) (exOut t p eb ec).length (prtCells (exOut t p eb ec)) ∧ (exOut t p eb ec ≠ [] → Acc w [] w' 61 5 (.slice eb (lackE t p).length ec) (lackE t p).length (entCells (lackE t p))) ∧
      (∃ q' j', Sto w' gs bm bt q' node ((⟨t, clock, 0, 0⟩ : Hd).all p.es).clock j' ((⟨t, clock, 0, 0⟩ : Hd).all p.es).t) ∧ Ext [gs, bt, bm] w w' := by
  have hg0 := hS.not0 hl
  have st := St.init w [gs, bt, bm]
  have hll := lackE_le t p
  refine CR_enter Tryd.func51 rfl Tryd.ntmps51 rfl ?_
  refine W_seq <| W_region <| RP_e rfl (ef_box st rfl rfl) ?_
  rintro _ w1 ⟨g4, rfl, hg4, hg4', st2, hx3⟩
  replace st2 : St [gs, bt, bm] w w1 [(g4, 34, [.int .i64 p.k, .string p.r.lo, .string p.r.hi, .bool p.r.op, .int .i64 p.t.k, .int .u64 p.t.a, .int .u64 p.t.b, .slice p.eb p.es.length p.ec])] := st2
  replace hS := hS.ext0 hx3
  let a5 : Value := .pointer (some ⟨gs, 0, none⟩)
  let a6 : Value := .pointer (some ⟨g4, 0, none⟩)
  refine RP_sg 1 [.p (.slice none 0 0)] [(0, a5), (3, a6)] trivial ?_
  refine RP_e rfl (ef_alloc st2 zero_52 rfl) ?_
  rintro _ w7 ⟨gr, rfl, hgr, hgr', st8, hx9⟩
  replace st8 : St [gs, bt, bm] w w7 [(gr, 52, [.int .i64 0, .int .i64 0]), (g4, 34, [.int .i64 p.k, .string p.r.lo, .string p.r.hi, .bool p.r.op, .int .i64 p.t.k, .int .u64 p.t.a, .int .u64 p.t.b, .slice p.eb p.es.length p.ec])] := st8
  replace hS := hS.ext0 hx9
  let a10 : Value := .pointer (some ⟨gr, 0, none⟩)
  refine RP_pk [(0, a5), (3, a6), (5, a10)] ?_
  refine RP_nil <| n_then <| W_seq <| W_region ?_
  let a11 : Value := .slice none 0 0
  refine RP_sg 1 [.p a11] [(0, a5), (3, a6), (5, a10), (6, a11)] trivial ?_
  refine RP_nil <| n_then <| W_seq <| W_seq <| W_region <| RP_sg 3 [.p a6, .l 3 a6 (.int .i64 p.k), .p (.bool (p.k == 2))] [(0, a5), (3, a6), (5, a10), (6, a11), (16, .bool (p.k == 2))] ⟨ld1 st8 nagg_3 1 rfl rfl, trivial⟩ ?_
  refine RP_nil <| n_then <| W_cond rfl (fun c16_12 => ?_) (fun c16_12 => ?_)
  ·
   refine W_seq <| W_regionS ⟨(fun w' => Blk w' g4 34 [.int .i64 p.k, .string p.r.lo, .string p.r.hi, .bool p.r.op, .int .i64 p.t.k, .int .u64 p.t.a, .int .u64 p.t.b, .slice p.eb p.es.length p.ec].toArray), (fun _ => True)⟩ (.cons 1 0 (.cons 1 1 (.cons 1 2 (.cons 1 4 (.cons 1 5 (.cons 2 3 (.cons 2 6 (.cons 1 7 (.cons 1 8 (.cons 1 9 (.cons 1 10 (.cons 0 11 .nil)))))))))))) 12 (by kernel_rfl) (by kernel_rfl) ?_
   have st13 := st8.drew
   replace hS := hS.ext0 (Ext.refl [] _).drew
   let a14 : Value := .agg #[.string p.r.lo, .string p.r.hi, .bool p.r.op]
   let a15 : Value := .slice p.eb p.es.length p.ec
   refine RS_sg 5 [.p a5, .p (.pointer (some ⟨g4, 1, none⟩)), .l 24 (.pointer (some ⟨g4, 1, none⟩)) a14, .p (.pointer (some ⟨g4, 7, none⟩)), .l 22 (.pointer (some ⟨g4, 7, none⟩)) a15] [(0, a5), (3, a6), (5, a10), (6, a11), (18, a5), (20, a14), (23, a15)] (st13.get 1 rfl) (fun _ hS => ⟨ldNb (hS) agg_24 rfl rfl, ld1b (hS) nagg_22 rfl, trivial⟩) ?_
   refine RS_e rfl rfl (ef_call (k := 107) (args := [a5, a14]) (matchHeld_cr p.r hS (by omega)) body_107 (by kernel_rfl)) ?_
   rintro _ w16 ⟨_, rfl, hb, hc, rfl, hac1, hx18⟩
   have st17 := st13.call0 hx18
   replace hS := hS.ext0 hx18
   refine ⟨st17.get 1 rfl, ?_⟩
   have hLe : lackE t p = cond (chk2 (t.rowsR p.r) p.es != 0) [] (lacksL (t.rowsR p.r) p.es) := by unfold lackE; rw [c16_12]; rfl
   rw [hLe] at hll
   refine RS_e rfl rfl (ef_call (k := 108) (args := [.slice hb ((t.rowsR p.r).length) hc, a15]) (lacks_cr (t.rowsR p.r) p.es (InS.of_own hac1.own) (hin.extd st17.ext hsep) (by have := T.rowsR_le t p.r; omega) (by omega)) body_108 (by kernel_rfl)) ?_
   rintro _ w19 ⟨_, rfl, eb, ec, hv, hac, hx21⟩
   have st20 := st17.call0 hx21
   replace hS := hS.ext0 hx21
   rw [← hLe] at hac hll hv
   subst hv
   replace hac := Acc.since (w0 := w) hac st17.ext.size
   have hxx := hx21
   refine ⟨st20.get 1 rfl, ?_⟩
   let a22 : Value := .slice eb ((lackE t p).length) ec
   refine RS_sg 4 [.p (.tuple #[a22, .int .i64 (chk2 (t.rowsR p.r) p.es)]), .p a22, .p (.int .i64 (chk2 (t.rowsR p.r) p.es)), .p a22] [(0, a5), (3, a6), (5, a10), (6, a11), (7, a22), (26, .int .i64 (chk2 (t.rowsR p.r) p.es))] (st20.get 1 rfl) (fun _ hS => trivial) ?_
   refine RS_sgP 1 [.p (.int .i64 (chk2 (t.rowsR p.r) p.es))] [(0, a5), (3, a6), (5, a10), (6, a11), (7, a22)] (fun _ => trivial) ?_
   refine RS_nil <| n_then <| W_seq <| W_region <| RP_sg 3 [.p a22, .p (.int .i64 (((lackE t p).length : Nat) : Int)), .p (.bool (decide ((((lackE t p).length : Nat) : Int) > 0)))] [(0, a5), (3, a6), (5, a10), (6, a11), (7, a22), (29, .bool (decide ((((lackE t p).length : Nat) : Int) > 0)))] trivial ?_
   refine RP_nil <| n_then <| W_cond rfl (fun c29_23 => ?_) (fun c29_23 => ?_)
   ·
    have c29_23p := of_decide_eq_true c29_23
    refine W_region ?_
    let a24 : Value := .agg #[.int .i64 3, .string p.r.lo, .string p.r.hi, .bool p.r.op, .int .i64 0, .int .u64 0, .int .u64 0, a22]
    refine RP_sg 5 [.p a11, .p (.pointer (some ⟨g4, 1, none⟩)), .l 24 (.pointer (some ⟨g4, 1, none⟩)) a14, .p a22, .p a24] [(0, a5), (3, a6), (5, a10), (30, a11), (34, a24)] ⟨ldN st20 agg_24 1 rfl rfl rfl, trivial⟩ ?_
    refine RP_e rfl (ef_new (t := 34) (cs := [.int .i64 3, .string p.r.lo, .string p.r.hi, .bool p.r.op, .int .i64 0, .int .u64 0, .int .u64 0, a22]) (fun g => .slice (some ⟨g, 0, none⟩) 1 1) st20 rfl rfl (fun _ => by kernel_rfl)) ?_
    rintro _ w25 ⟨gp, rfl, hgp, hgp', st26, hx27⟩
    replace hS := hS.ext0 hx27
    replace hac := hac.ext hx27 (by simp)
    have hacp := Acc.nil w [gs, bt, bm] w25 34 8
    refine RP_e rfl (ef_appendI appPart (st26.sub (M' := [(gr, 52, [.int .i64 0, .int .i64 0]), (g4, 34, [.int .i64 p.k, .string p.r.lo, .string p.r.hi, .bool p.r.op, .int .i64 p.t.k, .int .u64 p.t.a, .int .u64 p.t.b, .slice p.eb p.es.length p.ec])]) [] (List.sublist_cons_self _ _)) hacp rfl rfl (InS.of_blk (st26.get 0 rfl)) rfl rfl (by simp [maxLen]) (by omega) (fun q _ hm => by simp [ownB, Value.ownBlock] at hm)) ?_
    rintro _ w28 ⟨v3, rfl, hacp, st29, hx30⟩
    replace hS := hS.ext0 hx30
    replace hac := hac.ext hx30 (by simp [ownB, Value.ownBlock])
    simp only [Nat.zero_add, List.nil_append] at hacp
    obtain ⟨d3, f3, rfl⟩ := ownsRow.form' hacp.own
    refine RP_sg 1 [.p (.slice d3 1 f3)] [(0, a5), (3, a6), (5, a10), (6, .slice d3 1 f3)] trivial ?_
    refine RP_nil <| n_then <| W_seq <| W_region <| RP_e rfl (ef_alloc st29 zero_52 rfl) ?_
    rintro _ w31 ⟨gh, rfl, hgh, hgh', st32, hx33⟩
    replace st32 : St [gs, bt, bm] w w31 [(gh, 52, [.int .i64 0, .int .i64 0]), (gr, 52, [.int .i64 0, .int .i64 0]), (g4, 34, [.int .i64 p.k, .string p.r.lo, .string p.r.hi, .bool p.r.op, .int .i64 p.t.k, .int .u64 p.t.a, .int .u64 p.t.b, .slice p.eb p.es.length p.ec])] := st32
    replace hS := hS.ext0 hx33
    replace hac := hac.ext hx33 (by simp)
    replace hacp := hacp.ext hx33 (by simp)
    let a34 : Value := .pointer (some ⟨gh, 0, none⟩)
    refine RP_pk [(0, a5), (3, a6), (5, a10), (6, .slice d3 1 f3), (9, a34)] ?_
    refine RP_nil <| n_then <| W_seq <| W_seq <| W_region ?_
    let a35 : Value := .slice p.eb p.es.length p.ec
    refine RP_sg 4 [.p (.pointer (some ⟨g4, 7, none⟩)), .l 22 (.pointer (some ⟨g4, 7, none⟩)) a35, .p (.int .i64 ((p.es.length : Nat) : Int)), .p (.int .i64 0)] [(0, a5), (5, a10), (6, .slice d3 1 f3), (9, a34), (38, a35), (39, .int .i64 ((p.es.length : Nat) : Int)), (40, .int .i64 0)] ⟨ld1 st32 nagg_22 2 rfl rfl, trivial⟩ ?_
    refine RP_nil <| n_then <| W_block ?_
    have hex : exOut t p eb ec = [⟨3, p.r, Tal.zero, lackE t p, eb, ec⟩] := by unfold exOut; rw [c29_23]; rfl
    have hO : Acc w [] w31 34 8 (.slice d3 (exOut t p eb ec).length f3) (exOut t p eb ec).length (prtCells (exOut t p eb ec)) := by rw [hex]; exact hacp.strip hS rfl
    have hE := hac
    refine W_loop (fun k_ m_ w_ => ∃ (i : Nat) (od : Option Addr) (of : Nat) (eb : Option Addr) (ec : Nat) (q2 : Option Addr) (j2 : Int), p.es.length - i = k_ ∧ m_ = [(0, a5), (5, a10), (6, .slice od ((exOut t p eb ec).length) of), (9, a34), (38, a35), (39, .int .i64 ((p.es.length : Nat) : Int)), (40, .int .i64 ((i : Nat) : Int))] ∧ St [gs, bt, bm] w w_ [(gh, 52, [.int .i64 ((((⟨t, clock, 0, 0⟩ : Hd).all (p.es.take i)).tk : Nat) : Int), .int .i64 ((((⟨t, clock, 0, 0⟩ : Hd).all (p.es.take i)).rf : Nat) : Int)]), (gr, 52, [.int .i64 0, .int .i64 0]), (g4, 34, [.int .i64 p.k, .string p.r.lo, .string p.r.hi, .bool p.r.op, .int .i64 p.t.k, .int .u64 p.t.a, .int .u64 p.t.b, .slice p.eb p.es.length p.ec])] ∧ i ≤ p.es.length ∧ Sto w_ gs bm bt q2 node ((⟨t, clock, 0, 0⟩ : Hd).all (p.es.take i)).clock j2 ((⟨t, clock, 0, 0⟩ : Hd).all (p.es.take i)).t ∧ Acc w [] w_ 34 8 (.slice od (exOut t p eb ec).length of) (exOut t p eb ec).length (prtCells (exOut t p eb ec)) ∧ Acc w [] w_ 61 5 (.slice eb (lackE t p).length ec) (lackE t p).length (entCells (lackE t p))) ⟨0, d3, f3, eb, ec, q, j, rfl, by rw [hex]; rfl, st32, Nat.zero_le _, hS, hO, hE⟩ ?_
    rintro _ _ w37 ⟨i, od, of, eb, ec, q2, j2, rfl, rfl, st36, hil, hS, hO, hE⟩
    have hlE := ownsRow.lt hE.own
    have hsz9 := Hd.all_size (p.es.take i) ⟨t, clock, 0, 0⟩
    simp only [List.length_take] at hsz9
    generalize hSS : ((⟨t, clock, 0, 0⟩ : Hd).all (p.es.take i)) = s at *
    refine W_seq <| W_region ?_
    let a38 : Value := .slice od ((exOut t p eb ec).length) of
    let a39 : Value := .slice p.eb p.es.length p.ec
    refine RP_sg 1 [.p (.bool (decide (((i : Nat) : Int) < ((p.es.length : Nat) : Int))))] [(0, a5), (5, a10), (6, a38), (9, a34), (38, a39), (39, .int .i64 ((p.es.length : Nat) : Int)), (40, .int .i64 ((i : Nat) : Int)), (41, .bool (decide (((i : Nat) : Int) < ((p.es.length : Nat) : Int))))] trivial ?_
    refine RP_nil <| n_then <| W_seq <| W_cond rfl (fun c41_40 => ?_) (fun c41_40 => ?_)
    ·
     have c41_40p := of_decide_eq_true c41_40
     refine W_skip <| n_then <| W_seq <| W_block <| W_seq <| W_region ?_
     have hlt : i < p.es.length := by omega
     obtain ⟨e, he⟩ : ∃ e, p.es[i]? = some e := ⟨p.es[i], by simp [hlt]⟩
     have hbs := hin.some_ (by rw [entCells_len]; omega)
     refine RP_q rfl (v := .pointer (some ⟨(sp p.eb), so p.eb + i * 5, none⟩)) (ev_indexI idxEnt rfl rfl hbs hlt) ?_
     let a41 : Value := .agg #[.string e.key, .int .i64 e.c, .int .i64 e.n, .string e.val, .bool e.dead]
     refine RP_sg 1 [.l 61 (.pointer (some ⟨(sp p.eb), so p.eb + i * 5, none⟩)) a41] [(0, a5), (5, a10), (6, a38), (9, a34), (38, a39), (39, .int .i64 ((p.es.length : Nat) : Int)), (40, .int .i64 ((i : Nat) : Int)), (43, a41)] ⟨InS.loadN agg_61 ((hin.extd st36.ext hsep).ext0 (Ext.refl [] _)) (entCells_at he) rfl (by decide), trivial⟩ ?_
     refine RP_e rfl (ef_alloc st36 zero_61 rfl) ?_
     rintro _ w42 ⟨ge, rfl, hge, hge', st43, hx44⟩
     replace st43 : St [gs, bt, bm] w w42 [(ge, 61, [.string (⟨#[]⟩ : ByteArray), .int .i64 0, .int .i64 0, .string (⟨#[]⟩ : ByteArray), .bool false]), (gh, 52, [.int .i64 ((s.tk : Nat) : Int), .int .i64 ((s.rf : Nat) : Int)]), (gr, 52, [.int .i64 0, .int .i64 0]), (g4, 34, [.int .i64 p.k, .string p.r.lo, .string p.r.hi, .bool p.r.op, .int .i64 p.t.k, .int .u64 p.t.a, .int .u64 p.t.b, .slice p.eb p.es.length p.ec])] := st43
     replace hS := hS.ext0 hx44
     replace hO := hO.ext hx44 (by simp)
     replace hE := hE.ext hx44 (by simp)
     refine RP_e rfl (ef_store st43 rfl rfl rfl size_61 0 rfl rfl rfl rfl (.inr hge)) ?_
     rintro _ w45 ⟨rfl, st46, hx47⟩
     replace st46 : St [gs, bt, bm] w w45 [(ge, 61, [.string e.key, .int .i64 e.c, .int .i64 e.n, .string e.val, .bool e.dead]), (gh, 52, [.int .i64 ((s.tk : Nat) : Int), .int .i64 ((s.rf : Nat) : Int)]), (gr, 52, [.int .i64 0, .int .i64 0]), (g4, 34, [.int .i64 p.k, .string p.r.lo, .string p.r.hi, .bool p.r.op, .int .i64 p.t.k, .int .u64 p.t.a, .int .u64 p.t.b, .slice p.eb p.es.length p.ec])] := st46
     replace hS := hS.ext1 hx47 (st43.get 0 rfl) (by decide) (by decide) (by decide) (by decide)
     replace hO := hO.ext hx47 (hO.not_blk (st43.get 0 rfl) (by decide))
     replace hE := hE.ext hx47 (fun q hq hm => by simp only [List.mem_singleton] at hm; have := (hlE q hq).1; omega)
     let a48 : Value := .pointer (some ⟨ge, 0, none⟩)
     refine RP_pk [(0, a5), (5, a10), (6, a38), (9, a34), (11, a48), (38, a39), (39, .int .i64 ((p.es.length : Nat) : Int)), (40, .int .i64 ((i : Nat) : Int))] ?_
     refine RP_nil <| n_then <| W_seq <| W_region <| RP_sg 2 [.p a5, .l 61 a48 a41] [(0, a5), (5, a10), (6, a38), (9, a34), (38, a39), (39, .int .i64 ((p.es.length : Nat) : Int)), (40, .int .i64 ((i : Nat) : Int)), (45, a5), (46, a41)] ⟨ldN st46 agg_61 0 rfl rfl rfl, trivial⟩ ?_
     refine RP_e rfl (ef_call (k := 25) (args := [a5, a41]) (take_cr e (hl.ext st46.ext hg0) hS (by omega)) body_25 (by kernel_rfl)) ?_
     rintro _ w49 ⟨_, rfl, rfl, ⟨q3, j3, hS2⟩, hx51⟩
     have st50 := st46.call hx51 (st46.apartS hS rfl) (by simp)
     replace hO := hO.ext hx51 (hO.apartS hS rfl)
     replace hE := hE.ext hx51 (hE.apartS hS rfl)
     replace hS := hS2
     refine RP_sg 5 [.p (.tuple #[.bool (takes s.t e), .int .i64 (takeErr s.t e)]), .p (.bool (takes s.t e)), .p (.int .i64 (takeErr s.t e)), .p (.bool (takes s.t e)), .p (.int .i64 (takeErr s.t e))] [(0, a5), (5, a10), (6, a38), (9, a34), (12, .bool (takes s.t e)), (13, .int .i64 (takeErr s.t e)), (38, a39), (39, .int .i64 ((p.es.length : Nat) : Int)), (40, .int .i64 ((i : Nat) : Int))] trivial ?_
     refine RP_nil <| n_then <| W_block <| W_seq <| W_region <| RP_sg 3 [.p (.int .i64 (takeErr s.t e)), .p (.bool ((takeErr s.t e) == 80)), .p (.bool ((takeErr s.t e) == 80))] [(0, a5), (5, a10), (6, a38), (9, a34), (12, .bool (takes s.t e)), (38, a39), (39, .int .i64 ((p.es.length : Nat) : Int)), (40, .int .i64 ((i : Nat) : Int)), (50, .bool ((takeErr s.t e) == 80))] trivial ?_
     refine RP_nil <| n_then <| W_cond rfl (fun c50_52 => ?_) (fun c50_52 => ?_)
     ·
      refine W_region ?_
      let a53 : Value := .pointer (some ⟨gh, 1, none⟩)
      refine RP_sg 4 [.p a53, .l 3 a53 (.int .i64 ((s.rf : Nat) : Int)), .p (.int .i64 (IntKind.i64.wrap (((s.rf : Nat) : Int) + 1))), .p a53] [(0, a5), (5, a10), (6, a38), (9, a34), (38, a39), (39, .int .i64 ((p.es.length : Nat) : Int)), (40, .int .i64 ((i : Nat) : Int)), (55, .int .i64 (IntKind.i64.wrap (((s.rf : Nat) : Int) + 1))), (56, a53)] ⟨ld1 st50 nagg_3 1 rfl rfl, trivial⟩ ?_
      refine RP_e rfl (ef_store st50 rfl rfl rfl size_3 1 rfl rfl rfl rfl (.inr hgh)) ?_
      rintro _ w54 ⟨rfl, st55, hx56⟩
      replace st55 : St [gs, bt, bm] w w54 [(ge, 61, [.string e.key, .int .i64 e.c, .int .i64 e.n, .string e.val, .bool e.dead]), (gh, 52, [.int .i64 ((s.tk : Nat) : Int), .int .i64 (IntKind.i64.wrap (((s.rf : Nat) : Int) + 1))]), (gr, 52, [.int .i64 0, .int .i64 0]), (g4, 34, [.int .i64 p.k, .string p.r.lo, .string p.r.hi, .bool p.r.op, .int .i64 p.t.k, .int .u64 p.t.a, .int .u64 p.t.b, .slice p.eb p.es.length p.ec])] := st55
      replace hS := hS.ext1 hx56 (st50.get 1 rfl) (by decide) (by decide) (by decide) (by decide)
      replace hO := hO.ext hx56 (hO.not_blk (st50.get 1 rfl) (by decide))
      replace hE := hE.ext hx56 (hE.not_blk (st50.get 1 rfl) (by decide))
      refine RP_pk [(0, a5), (5, a10), (6, a38), (9, a34), (38, a39), (39, .int .i64 ((p.es.length : Nat) : Int)), (40, .int .i64 ((i : Nat) : Int))] ?_
      refine RP_nil <| n_block <| n_block <| n_then <| W_region <| RP_sg 2 [.p (.int .i64 (IntKind.i64.wrap (((i : Nat) : Int) + 1))), .p (.int .i64 (IntKind.i64.wrap (((i : Nat) : Int) + 1)))] [(0, a5), (5, a10), (6, a38), (9, a34), (38, a39), (39, .int .i64 ((p.es.length : Nat) : Int)), (40, .int .i64 (IntKind.i64.wrap (((i : Nat) : Int) + 1)))] trivial ?_
      refine RP_nil ?_
      have hst : (⟨t, clock, 0, 0⟩ : Hd).all (p.es.take (i + 1)) = s.step e := by rw [Hd.all_succ he, hSS]
      have h80 := c50_52
      have htk0 := takes_no80 (eq_of_beq h80)
      have hse : s.step e = ⟨s.t, s.clock, s.tk, s.rf + 1⟩ := by unfold Hd.step; rw [h80]; rfl
      rw [htk0] at hS
      rw [inc_w (n := s.rf) (by omega)] at st55
      exact ⟨_, by omega, (i + 1), od, of, eb, ec, q3, j3, rfl, by rw [inc_w (n := i) (by omega)], by rw [hst, hse]; exact st55.sub [] (by simp), by omega, by rw [hst, hse]; exact hS, hO, hE⟩
     ·
      refine W_seq <| W_region <| RP_sg 2 [.p (.bool (takes s.t e)), .p (.bool (takes s.t e))] [(0, a5), (5, a10), (6, a38), (9, a34), (38, a39), (39, .int .i64 ((p.es.length : Nat) : Int)), (40, .int .i64 ((i : Nat) : Int)), (57, .bool (takes s.t e))] trivial ?_
      refine RP_nil <| n_then <| W_cond rfl (fun c57_57 => ?_) (fun c57_57 => ?_)
      ·
       refine W_region <| RP_sg 4 [.p a34, .l 3 a34 (.int .i64 ((s.tk : Nat) : Int)), .p (.int .i64 (IntKind.i64.wrap (((s.tk : Nat) : Int) + 1))), .p a34] [(0, a5), (5, a10), (6, a38), (9, a34), (38, a39), (39, .int .i64 ((p.es.length : Nat) : Int)), (40, .int .i64 ((i : Nat) : Int)), (61, .int .i64 (IntKind.i64.wrap (((s.tk : Nat) : Int) + 1))), (62, a34)] ⟨ld1 st50 nagg_3 1 rfl rfl, trivial⟩ ?_
       refine RP_e rfl (ef_store st50 rfl rfl rfl size_3 1 rfl rfl rfl rfl (.inr hgh)) ?_
       rintro _ w58 ⟨rfl, st59, hx60⟩
       replace st59 : St [gs, bt, bm] w w58 [(ge, 61, [.string e.key, .int .i64 e.c, .int .i64 e.n, .string e.val, .bool e.dead]), (gh, 52, [.int .i64 (IntKind.i64.wrap (((s.tk : Nat) : Int) + 1)), .int .i64 ((s.rf : Nat) : Int)]), (gr, 52, [.int .i64 0, .int .i64 0]), (g4, 34, [.int .i64 p.k, .string p.r.lo, .string p.r.hi, .bool p.r.op, .int .i64 p.t.k, .int .u64 p.t.a, .int .u64 p.t.b, .slice p.eb p.es.length p.ec])] := st59
       replace hS := hS.ext1 hx60 (st50.get 1 rfl) (by decide) (by decide) (by decide) (by decide)
       replace hO := hO.ext hx60 (hO.not_blk (st50.get 1 rfl) (by decide))
       replace hE := hE.ext hx60 (hE.not_blk (st50.get 1 rfl) (by decide))
       refine RP_pk [(0, a5), (5, a10), (6, a38), (9, a34), (38, a39), (39, .int .i64 ((p.es.length : Nat) : Int)), (40, .int .i64 ((i : Nat) : Int))] ?_
       refine RP_nil <| n_block <| n_block <| n_then <| W_region <| RP_sg 2 [.p (.int .i64 (IntKind.i64.wrap (((i : Nat) : Int) + 1))), .p (.int .i64 (IntKind.i64.wrap (((i : Nat) : Int) + 1)))] [(0, a5), (5, a10), (6, a38), (9, a34), (38, a39), (39, .int .i64 ((p.es.length : Nat) : Int)), (40, .int .i64 (IntKind.i64.wrap (((i : Nat) : Int) + 1)))] trivial ?_
       refine RP_nil ?_
       have hst : (⟨t, clock, 0, 0⟩ : Hd).all (p.es.take (i + 1)) = s.step e := by rw [Hd.all_succ he, hSS]
       have hse : s.step e = ⟨T.put e s.t, max s.clock e.c, s.tk + 1, s.rf⟩ := by unfold Hd.step; rw [c50_52, c57_57]; rfl
       rw [c57_57] at hS
       rw [inc_w (n := s.tk) (by omega)] at st59
       exact ⟨_, by omega, (i + 1), od, of, eb, ec, q3, j3, rfl, by rw [inc_w (n := i) (by omega)], by rw [hst, hse]; exact st59.sub [] (by simp), by omega, by rw [hst, hse]; exact hS, hO, hE⟩
      ·
       refine W_skip <| n_block <| n_block <| n_then <| W_region <| RP_sg 2 [.p (.int .i64 (IntKind.i64.wrap (((i : Nat) : Int) + 1))), .p (.int .i64 (IntKind.i64.wrap (((i : Nat) : Int) + 1)))] [(0, a5), (5, a10), (6, a38), (9, a34), (38, a39), (39, .int .i64 ((p.es.length : Nat) : Int)), (40, .int .i64 (IntKind.i64.wrap (((i : Nat) : Int) + 1)))] trivial ?_
       refine RP_nil ?_
       have hst : (⟨t, clock, 0, 0⟩ : Hd).all (p.es.take (i + 1)) = s.step e := by rw [Hd.all_succ he, hSS]
       have hse : s.step e = s := by unfold Hd.step; rw [c50_52, c57_57]; rfl
       rw [c57_57] at hS
       exact ⟨_, by omega, (i + 1), od, of, eb, ec, q3, j3, rfl, by rw [inc_w (n := i) (by omega)], by rw [hst, hse]; exact st50.sub [] (by simp), by omega, by rw [hst, hse]; exact hS, hO, hE⟩
    ·
     have c41_40p := of_decide_eq_false c41_40
     refine W_exit ?_
     refine e_then <| e_loop <| e_here ?_
     refine n_then <| W_seq <| W_regionS ⟨(fun w' => Blk w' gh 52 [.int .i64 ((s.tk : Nat) : Int), .int .i64 ((s.rf : Nat) : Int)].toArray), (fun _ => True)⟩ (.cons 1 0 (.cons 1 1 (.cons 1 2 (.cons 3 3 .nil)))) 4 (by kernel_rfl) (by kernel_rfl) ?_
     have st61 := st36.drew
     replace hS := hS.ext0 (Ext.refl [] _).drew
     replace hO := hO.drew
     replace hE := hE.drew
     let a62 : Value := .agg #[.int .i64 ((s.tk : Nat) : Int), .int .i64 ((s.rf : Nat) : Int)]
     refine RS_sg 3 [.p a38, .l 52 a34 a62, .p a38] [(4, a38), (5, a10), (65, a62)] (st61.get 0 rfl) (fun _ hS => ⟨ldNb (hS) agg_52 rfl rfl, trivial⟩) ?_
     refine RS_f rfl rfl (ef_store st61 rfl rfl rfl size_52 1 rfl rfl rfl rfl (.inr hgr)) ?_
     rintro _ w63 ⟨rfl, st64, hx65⟩
     replace st64 : St [gs, bt, bm] w w63 [(gh, 52, [.int .i64 ((s.tk : Nat) : Int), .int .i64 ((s.rf : Nat) : Int)]), (gr, 52, [.int .i64 ((s.tk : Nat) : Int), .int .i64 ((s.rf : Nat) : Int)]), (g4, 34, [.int .i64 p.k, .string p.r.lo, .string p.r.hi, .bool p.r.op, .int .i64 p.t.k, .int .u64 p.t.a, .int .u64 p.t.b, .slice p.eb p.es.length p.ec])] := st64
     replace hS := hS.ext1 hx65 (st61.get 1 rfl) (by decide) (by decide) (by decide) (by decide)
     replace hO := hO.ext hx65 (hO.not_blk (st61.get 1 rfl) (by decide))
     replace hE := hE.ext hx65 (hE.not_blk (st61.get 1 rfl) (by decide))
     refine RS_pk [(4, a38), (5, a10)] ?_
     refine RS_nil <| n_then <| W_ret ?_
     have hiL : i = p.es.length := by omega
     rw [hiL, List.take_length] at hSS
     rw [hSS]
     refine ret_of (P := Tryd.prog) (fn := Tryd.f51) (m := [(4, .slice od ((exOut t p eb ec).length) of), (5, .pointer (some ⟨gr, 0, none⟩))]) (w := w63) (res2 rfl (rv_tmp rfl) (rv_cell rfl (by simpa [Instr.loadAt, Instr.sureAddr] using (ldN st64 agg_52 1 rfl rfl rfl)))) ?_
     exact ⟨od, of, eb, ec, rfl, hO, fun _ => hE, ⟨_, _, hS⟩, st64.ext⟩
   ·
    have c29_23p := of_decide_eq_false c29_23
    refine W_skip <| n_then <| W_seq <| W_region <| RP_e rfl (ef_alloc st20 zero_52 rfl) ?_
    rintro _ w66 ⟨gh, rfl, hgh, hgh', st67, hx68⟩
    replace st67 : St [gs, bt, bm] w w66 [(gh, 52, [.int .i64 0, .int .i64 0]), (gr, 52, [.int .i64 0, .int .i64 0]), (g4, 34, [.int .i64 p.k, .string p.r.lo, .string p.r.hi, .bool p.r.op, .int .i64 p.t.k, .int .u64 p.t.a, .int .u64 p.t.b, .slice p.eb p.es.length p.ec])] := st67
    replace hS := hS.ext0 hx68
    replace hac := hac.ext hx68 (by simp)
    let a69 : Value := .pointer (some ⟨gh, 0, none⟩)
    refine RP_pk [(0, a5), (3, a6), (5, a10), (6, a11), (9, a69)] ?_
    refine RP_nil <| n_then <| W_seq <| W_seq <| W_region ?_
    let a70 : Value := .slice p.eb p.es.length p.ec
    refine RP_sg 4 [.p (.pointer (some ⟨g4, 7, none⟩)), .l 22 (.pointer (some ⟨g4, 7, none⟩)) a70, .p (.int .i64 ((p.es.length : Nat) : Int)), .p (.int .i64 0)] [(0, a5), (5, a10), (6, a11), (9, a69), (38, a70), (39, .int .i64 ((p.es.length : Nat) : Int)), (40, .int .i64 0)] ⟨ld1 st67 nagg_22 2 rfl rfl, trivial⟩ ?_
    refine RP_nil <| n_then <| W_block ?_
    have hex : exOut t p eb ec = [] := by unfold exOut; rw [c29_23]; rfl
    have hO : Acc w [] w66 34 8 (.slice none (exOut t p eb ec).length 0) (exOut t p eb ec).length (prtCells (exOut t p eb ec)) := by rw [hex]; exact Acc.nil _ _ _ _ _
    have hE := hac
    refine W_loop (fun k_ m_ w_ => ∃ (i : Nat) (od : Option Addr) (of : Nat) (eb : Option Addr) (ec : Nat) (q2 : Option Addr) (j2 : Int), p.es.length - i = k_ ∧ m_ = [(0, a5), (5, a10), (6, .slice od ((exOut t p eb ec).length) of), (9, a69), (38, a70), (39, .int .i64 ((p.es.length : Nat) : Int)), (40, .int .i64 ((i : Nat) : Int))] ∧ St [gs, bt, bm] w w_ [(gh, 52, [.int .i64 ((((⟨t, clock, 0, 0⟩ : Hd).all (p.es.take i)).tk : Nat) : Int), .int .i64 ((((⟨t, clock, 0, 0⟩ : Hd).all (p.es.take i)).rf : Nat) : Int)]), (gr, 52, [.int .i64 0, .int .i64 0]), (g4, 34, [.int .i64 p.k, .string p.r.lo, .string p.r.hi, .bool p.r.op, .int .i64 p.t.k, .int .u64 p.t.a, .int .u64 p.t.b, .slice p.eb p.es.length p.ec])] ∧ i ≤ p.es.length ∧ Sto w_ gs bm bt q2 node ((⟨t, clock, 0, 0⟩ : Hd).all (p.es.take i)).clock j2 ((⟨t, clock, 0, 0⟩ : Hd).all (p.es.take i)).t ∧ Acc w [] w_ 34 8 (.slice od (exOut t p eb ec).length of) (exOut t p eb ec).length (prtCells (exOut t p eb ec)) ∧ Acc w [] w_ 61 5 (.slice eb (lackE t p).length ec) (lackE t p).length (entCells (lackE t p))) ⟨0, none, 0, eb, ec, q, j, rfl, by rw [hex]; rfl, st67, Nat.zero_le _, hS, hO, hE⟩ ?_
    rintro _ _ w72 ⟨i, od, of, eb, ec, q2, j2, rfl, rfl, st71, hil, hS, hO, hE⟩
    have hlE := ownsRow.lt hE.own
    have hsz9 := Hd.all_size (p.es.take i) ⟨t, clock, 0, 0⟩
    simp only [List.length_take] at hsz9
    generalize hSS : ((⟨t, clock, 0, 0⟩ : Hd).all (p.es.take i)) = s at *
    refine W_seq <| W_region ?_
    let a73 : Value := .slice od ((exOut t p eb ec).length) of
    let a74 : Value := .slice p.eb p.es.length p.ec
    refine RP_sg 1 [.p (.bool (decide (((i : Nat) : Int) < ((p.es.length : Nat) : Int))))] [(0, a5), (5, a10), (6, a73), (9, a69), (38, a74), (39, .int .i64 ((p.es.length : Nat) : Int)), (40, .int .i64 ((i : Nat) : Int)), (41, .bool (decide (((i : Nat) : Int) < ((p.es.length : Nat) : Int))))] trivial ?_
    refine RP_nil <| n_then <| W_seq <| W_cond rfl (fun c41_75 => ?_) (fun c41_75 => ?_)
    ·
     have c41_75p := of_decide_eq_true c41_75
     refine W_skip <| n_then <| W_seq <| W_block <| W_seq <| W_region ?_
     have hlt : i < p.es.length := by omega
     obtain ⟨e, he⟩ : ∃ e, p.es[i]? = some e := ⟨p.es[i], by simp [hlt]⟩
     have hbs := hin.some_ (by rw [entCells_len]; omega)
     refine RP_q rfl (v := .pointer (some ⟨(sp p.eb), so p.eb + i * 5, none⟩)) (ev_indexI idxEnt rfl rfl hbs hlt) ?_
     let a76 : Value := .agg #[.string e.key, .int .i64 e.c, .int .i64 e.n, .string e.val, .bool e.dead]
     refine RP_sg 1 [.l 61 (.pointer (some ⟨(sp p.eb), so p.eb + i * 5, none⟩)) a76] [(0, a5), (5, a10), (6, a73), (9, a69), (38, a74), (39, .int .i64 ((p.es.length : Nat) : Int)), (40, .int .i64 ((i : Nat) : Int)), (43, a76)] ⟨InS.loadN agg_61 ((hin.extd st71.ext hsep).ext0 (Ext.refl [] _)) (entCells_at he) rfl (by decide), trivial⟩ ?_
     refine RP_e rfl (ef_alloc st71 zero_61 rfl) ?_
     rintro _ w77 ⟨ge, rfl, hge, hge', st78, hx79⟩
     replace st78 : St [gs, bt, bm] w w77 [(ge, 61, [.string (⟨#[]⟩ : ByteArray), .int .i64 0, .int .i64 0, .string (⟨#[]⟩ : ByteArray), .bool false]), (gh, 52, [.int .i64 ((s.tk : Nat) : Int), .int .i64 ((s.rf : Nat) : Int)]), (gr, 52, [.int .i64 0, .int .i64 0]), (g4, 34, [.int .i64 p.k, .string p.r.lo, .string p.r.hi, .bool p.r.op, .int .i64 p.t.k, .int .u64 p.t.a, .int .u64 p.t.b, .slice p.eb p.es.length p.ec])] := st78
     replace hS := hS.ext0 hx79
     replace hO := hO.ext hx79 (by simp)
     replace hE := hE.ext hx79 (by simp)
     refine RP_e rfl (ef_store st78 rfl rfl rfl size_61 0 rfl rfl rfl rfl (.inr hge)) ?_
     rintro _ w80 ⟨rfl, st81, hx82⟩
     replace st81 : St [gs, bt, bm] w w80 [(ge, 61, [.string e.key, .int .i64 e.c, .int .i64 e.n, .string e.val, .bool e.dead]), (gh, 52, [.int .i64 ((s.tk : Nat) : Int), .int .i64 ((s.rf : Nat) : Int)]), (gr, 52, [.int .i64 0, .int .i64 0]), (g4, 34, [.int .i64 p.k, .string p.r.lo, .string p.r.hi, .bool p.r.op, .int .i64 p.t.k, .int .u64 p.t.a, .int .u64 p.t.b, .slice p.eb p.es.length p.ec])] := st81
     replace hS := hS.ext1 hx82 (st78.get 0 rfl) (by decide) (by decide) (by decide) (by decide)
     replace hO := hO.ext hx82 (hO.not_blk (st78.get 0 rfl) (by decide))
     replace hE := hE.ext hx82 (fun q hq hm => by simp only [List.mem_singleton] at hm; have := (hlE q hq).1; omega)
     let a83 : Value := .pointer (some ⟨ge, 0, none⟩)
     refine RP_pk [(0, a5), (5, a10), (6, a73), (9, a69), (11, a83), (38, a74), (39, .int .i64 ((p.es.length : Nat) : Int)), (40, .int .i64 ((i : Nat) : Int))] ?_
     refine RP_nil <| n_then <| W_seq <| W_region <| RP_sg 2 [.p a5, .l 61 a83 a76] [(0, a5), (5, a10), (6, a73), (9, a69), (38, a74), (39, .int .i64 ((p.es.length : Nat) : Int)), (40, .int .i64 ((i : Nat) : Int)), (45, a5), (46, a76)] ⟨ldN st81 agg_61 0 rfl rfl rfl, trivial⟩ ?_
     refine RP_e rfl (ef_call (k := 25) (args := [a5, a76]) (take_cr e (hl.ext st81.ext hg0) hS (by omega)) body_25 (by kernel_rfl)) ?_
     rintro _ w84 ⟨_, rfl, rfl, ⟨q3, j3, hS2⟩, hx86⟩
     have st85 := st81.call hx86 (st81.apartS hS rfl) (by simp)
     replace hO := hO.ext hx86 (hO.apartS hS rfl)
     replace hE := hE.ext hx86 (hE.apartS hS rfl)
     replace hS := hS2
     refine RP_sg 5 [.p (.tuple #[.bool (takes s.t e), .int .i64 (takeErr s.t e)]), .p (.bool (takes s.t e)), .p (.int .i64 (takeErr s.t e)), .p (.bool (takes s.t e)), .p (.int .i64 (takeErr s.t e))] [(0, a5), (5, a10), (6, a73), (9, a69), (12, .bool (takes s.t e)), (13, .int .i64 (takeErr s.t e)), (38, a74), (39, .int .i64 ((p.es.length : Nat) : Int)), (40, .int .i64 ((i : Nat) : Int))] trivial ?_
     refine RP_nil <| n_then <| W_block <| W_seq <| W_region <| RP_sg 3 [.p (.int .i64 (takeErr s.t e)), .p (.bool ((takeErr s.t e) == 80)), .p (.bool ((takeErr s.t e) == 80))] [(0, a5), (5, a10), (6, a73), (9, a69), (12, .bool (takes s.t e)), (38, a74), (39, .int .i64 ((p.es.length : Nat) : Int)), (40, .int .i64 ((i : Nat) : Int)), (50, .bool ((takeErr s.t e) == 80))] trivial ?_
     refine RP_nil <| n_then <| W_cond rfl (fun c50_87 => ?_) (fun c50_87 => ?_)
     ·
      refine W_region ?_
      let a88 : Value := .pointer (some ⟨gh, 1, none⟩)
      refine RP_sg 4 [.p a88, .l 3 a88 (.int .i64 ((s.rf : Nat) : Int)), .p (.int .i64 (IntKind.i64.wrap (((s.rf : Nat) : Int) + 1))), .p a88] [(0, a5), (5, a10), (6, a73), (9, a69), (38, a74), (39, .int .i64 ((p.es.length : Nat) : Int)), (40, .int .i64 ((i : Nat) : Int)), (55, .int .i64 (IntKind.i64.wrap (((s.rf : Nat) : Int) + 1))), (56, a88)] ⟨ld1 st85 nagg_3 1 rfl rfl, trivial⟩ ?_
      refine RP_e rfl (ef_store st85 rfl rfl rfl size_3 1 rfl rfl rfl rfl (.inr hgh)) ?_
      rintro _ w89 ⟨rfl, st90, hx91⟩
      replace st90 : St [gs, bt, bm] w w89 [(ge, 61, [.string e.key, .int .i64 e.c, .int .i64 e.n, .string e.val, .bool e.dead]), (gh, 52, [.int .i64 ((s.tk : Nat) : Int), .int .i64 (IntKind.i64.wrap (((s.rf : Nat) : Int) + 1))]), (gr, 52, [.int .i64 0, .int .i64 0]), (g4, 34, [.int .i64 p.k, .string p.r.lo, .string p.r.hi, .bool p.r.op, .int .i64 p.t.k, .int .u64 p.t.a, .int .u64 p.t.b, .slice p.eb p.es.length p.ec])] := st90
      replace hS := hS.ext1 hx91 (st85.get 1 rfl) (by decide) (by decide) (by decide) (by decide)
      replace hO := hO.ext hx91 (hO.not_blk (st85.get 1 rfl) (by decide))
      replace hE := hE.ext hx91 (hE.not_blk (st85.get 1 rfl) (by decide))
      refine RP_pk [(0, a5), (5, a10), (6, a73), (9, a69), (38, a74), (39, .int .i64 ((p.es.length : Nat) : Int)), (40, .int .i64 ((i : Nat) : Int))] ?_
      refine RP_nil <| n_block <| n_block <| n_then <| W_region <| RP_sg 2 [.p (.int .i64 (IntKind.i64.wrap (((i : Nat) : Int) + 1))), .p (.int .i64 (IntKind.i64.wrap (((i : Nat) : Int) + 1)))] [(0, a5), (5, a10), (6, a73), (9, a69), (38, a74), (39, .int .i64 ((p.es.length : Nat) : Int)), (40, .int .i64 (IntKind.i64.wrap (((i : Nat) : Int) + 1)))] trivial ?_
      refine RP_nil ?_
      have hst : (⟨t, clock, 0, 0⟩ : Hd).all (p.es.take (i + 1)) = s.step e := by rw [Hd.all_succ he, hSS]
      have h80 := c50_87
      have htk0 := takes_no80 (eq_of_beq h80)
      have hse : s.step e = ⟨s.t, s.clock, s.tk, s.rf + 1⟩ := by unfold Hd.step; rw [h80]; rfl
      rw [htk0] at hS
      rw [inc_w (n := s.rf) (by omega)] at st90
      exact ⟨_, by omega, (i + 1), od, of, eb, ec, q3, j3, rfl, by rw [inc_w (n := i) (by omega)], by rw [hst, hse]; exact st90.sub [] (by simp), by omega, by rw [hst, hse]; exact hS, hO, hE⟩
     ·
      refine W_seq <| W_region <| RP_sg 2 [.p (.bool (takes s.t e)), .p (.bool (takes s.t e))] [(0, a5), (5, a10), (6, a73), (9, a69), (38, a74), (39, .int .i64 ((p.es.length : Nat) : Int)), (40, .int .i64 ((i : Nat) : Int)), (57, .bool (takes s.t e))] trivial ?_
      refine RP_nil <| n_then <| W_cond rfl (fun c57_92 => ?_) (fun c57_92 => ?_)
      ·
       refine W_region <| RP_sg 4 [.p a69, .l 3 a69 (.int .i64 ((s.tk : Nat) : Int)), .p (.int .i64 (IntKind.i64.wrap (((s.tk : Nat) : Int) + 1))), .p a69] [(0, a5), (5, a10), (6, a73), (9, a69), (38, a74), (39, .int .i64 ((p.es.length : Nat) : Int)), (40, .int .i64 ((i : Nat) : Int)), (61, .int .i64 (IntKind.i64.wrap (((s.tk : Nat) : Int) + 1))), (62, a69)] ⟨ld1 st85 nagg_3 1 rfl rfl, trivial⟩ ?_
       refine RP_e rfl (ef_store st85 rfl rfl rfl size_3 1 rfl rfl rfl rfl (.inr hgh)) ?_
       rintro _ w93 ⟨rfl, st94, hx95⟩
       replace st94 : St [gs, bt, bm] w w93 [(ge, 61, [.string e.key, .int .i64 e.c, .int .i64 e.n, .string e.val, .bool e.dead]), (gh, 52, [.int .i64 (IntKind.i64.wrap (((s.tk : Nat) : Int) + 1)), .int .i64 ((s.rf : Nat) : Int)]), (gr, 52, [.int .i64 0, .int .i64 0]), (g4, 34, [.int .i64 p.k, .string p.r.lo, .string p.r.hi, .bool p.r.op, .int .i64 p.t.k, .int .u64 p.t.a, .int .u64 p.t.b, .slice p.eb p.es.length p.ec])] := st94
       replace hS := hS.ext1 hx95 (st85.get 1 rfl) (by decide) (by decide) (by decide) (by decide)
       replace hO := hO.ext hx95 (hO.not_blk (st85.get 1 rfl) (by decide))
       replace hE := hE.ext hx95 (hE.not_blk (st85.get 1 rfl) (by decide))
       refine RP_pk [(0, a5), (5, a10), (6, a73), (9, a69), (38, a74), (39, .int .i64 ((p.es.length : Nat) : Int)), (40, .int .i64 ((i : Nat) : Int))] ?_
       refine RP_nil <| n_block <| n_block <| n_then <| W_region <| RP_sg 2 [.p (.int .i64 (IntKind.i64.wrap (((i : Nat) : Int) + 1))), .p (.int .i64 (IntKind.i64.wrap (((i : Nat) : Int) + 1)))] [(0, a5), (5, a10), (6, a73), (9, a69), (38, a74), (39, .int .i64 ((p.es.length : Nat) : Int)), (40, .int .i64 (IntKind.i64.wrap (((i : Nat) : Int) + 1)))] trivial ?_
       refine RP_nil ?_
       have hst : (⟨t, clock, 0, 0⟩ : Hd).all (p.es.take (i + 1)) = s.step e := by rw [Hd.all_succ he, hSS]
       have hse : s.step e = ⟨T.put e s.t, max s.clock e.c, s.tk + 1, s.rf⟩ := by unfold Hd.step; rw [c50_87, c57_92]; rfl
       rw [c57_92] at hS
       rw [inc_w (n := s.tk) (by omega)] at st94
       exact ⟨_, by omega, (i + 1), od, of, eb, ec, q3, j3, rfl, by rw [inc_w (n := i) (by omega)], by rw [hst, hse]; exact st94.sub [] (by simp), by omega, by rw [hst, hse]; exact hS, hO, hE⟩
      ·
       refine W_skip <| n_block <| n_block <| n_then <| W_region <| RP_sg 2 [.p (.int .i64 (IntKind.i64.wrap (((i : Nat) : Int) + 1))), .p (.int .i64 (IntKind.i64.wrap (((i : Nat) : Int) + 1)))] [(0, a5), (5, a10), (6, a73), (9, a69), (38, a74), (39, .int .i64 ((p.es.length : Nat) : Int)), (40, .int .i64 (IntKind.i64.wrap (((i : Nat) : Int) + 1)))] trivial ?_
       refine RP_nil ?_
       have hst : (⟨t, clock, 0, 0⟩ : Hd).all (p.es.take (i + 1)) = s.step e := by rw [Hd.all_succ he, hSS]
       have hse : s.step e = s := by unfold Hd.step; rw [c50_87, c57_92]; rfl
       rw [c57_92] at hS
       exact ⟨_, by omega, (i + 1), od, of, eb, ec, q3, j3, rfl, by rw [inc_w (n := i) (by omega)], by rw [hst, hse]; exact st85.sub [] (by simp), by omega, by rw [hst, hse]; exact hS, hO, hE⟩
    ·
     have c41_75p := of_decide_eq_false c41_75
     refine W_exit ?_
     refine e_then <| e_loop <| e_here ?_
     refine n_then <| W_seq <| W_regionS ⟨(fun w' => Blk w' gh 52 [.int .i64 ((s.tk : Nat) : Int), .int .i64 ((s.rf : Nat) : Int)].toArray), (fun _ => True)⟩ (.cons 1 0 (.cons 1 1 (.cons 1 2 (.cons 3 3 .nil)))) 4 (by kernel_rfl) (by kernel_rfl) ?_
     have st96 := st71.drew
     replace hS := hS.ext0 (Ext.refl [] _).drew
     replace hO := hO.drew
     replace hE := hE.drew
     let a97 : Value := .agg #[.int .i64 ((s.tk : Nat) : Int), .int .i64 ((s.rf : Nat) : Int)]
     refine RS_sg 3 [.p a73, .l 52 a69 a97, .p a73] [(4, a73), (5, a10), (65, a97)] (st96.get 0 rfl) (fun _ hS => ⟨ldNb (hS) agg_52 rfl rfl, trivial⟩) ?_
     refine RS_f rfl rfl (ef_store st96 rfl rfl rfl size_52 1 rfl rfl rfl rfl (.inr hgr)) ?_
     rintro _ w98 ⟨rfl, st99, hx100⟩
     replace st99 : St [gs, bt, bm] w w98 [(gh, 52, [.int .i64 ((s.tk : Nat) : Int), .int .i64 ((s.rf : Nat) : Int)]), (gr, 52, [.int .i64 ((s.tk : Nat) : Int), .int .i64 ((s.rf : Nat) : Int)]), (g4, 34, [.int .i64 p.k, .string p.r.lo, .string p.r.hi, .bool p.r.op, .int .i64 p.t.k, .int .u64 p.t.a, .int .u64 p.t.b, .slice p.eb p.es.length p.ec])] := st99
     replace hS := hS.ext1 hx100 (st96.get 1 rfl) (by decide) (by decide) (by decide) (by decide)
     replace hO := hO.ext hx100 (hO.not_blk (st96.get 1 rfl) (by decide))
     replace hE := hE.ext hx100 (hE.not_blk (st96.get 1 rfl) (by decide))
     refine RS_pk [(4, a73), (5, a10)] ?_
     refine RS_nil <| n_then <| W_ret ?_
     have hiL : i = p.es.length := by omega
     rw [hiL, List.take_length] at hSS
     rw [hSS]
     refine ret_of (P := Tryd.prog) (fn := Tryd.f51) (m := [(4, .slice od ((exOut t p eb ec).length) of), (5, .pointer (some ⟨gr, 0, none⟩))]) (w := w98) (res2 rfl (rv_tmp rfl) (rv_cell rfl (by simpa [Instr.loadAt, Instr.sureAddr] using (ldN st99 agg_52 1 rfl rfl rfl)))) ?_
     exact ⟨od, of, eb, ec, rfl, hO, fun _ => hE, ⟨_, _, hS⟩, st99.ext⟩
  ·
   refine W_skip <| n_then <| W_seq <| W_region <| RP_e rfl (ef_alloc st8 zero_52 rfl) ?_
   rintro _ w101 ⟨gh, rfl, hgh, hgh', st102, hx103⟩
   replace st102 : St [gs, bt, bm] w w101 [(gh, 52, [.int .i64 0, .int .i64 0]), (gr, 52, [.int .i64 0, .int .i64 0]), (g4, 34, [.int .i64 p.k, .string p.r.lo, .string p.r.hi, .bool p.r.op, .int .i64 p.t.k, .int .u64 p.t.a, .int .u64 p.t.b, .slice p.eb p.es.length p.ec])] := st102
   replace hS := hS.ext0 hx103
   let a104 : Value := .pointer (some ⟨gh, 0, none⟩)
   refine RP_pk [(0, a5), (3, a6), (5, a10), (6, a11), (9, a104)] ?_
   refine RP_nil <| n_then <| W_seq <| W_seq <| W_region ?_
   let a105 : Value := .slice p.eb p.es.length p.ec
   refine RP_sg 4 [.p (.pointer (some ⟨g4, 7, none⟩)), .l 22 (.pointer (some ⟨g4, 7, none⟩)) a105, .p (.int .i64 ((p.es.length : Nat) : Int)), .p (.int .i64 0)] [(0, a5), (5, a10), (6, a11), (9, a104), (38, a105), (39, .int .i64 ((p.es.length : Nat) : Int)), (40, .int .i64 0)] ⟨ld1 st102 nagg_22 2 rfl rfl, trivial⟩ ?_
   refine RP_nil <| n_then <| W_block ?_
   have hLe : lackE t p = [] := by unfold lackE; rw [c16_12]; rfl
   have hex : exOut t p none 0 = [] := by unfold exOut; rw [hLe]; rfl
   have hO : Acc w [] w101 34 8 (.slice none (exOut t p none 0).length 0) (exOut t p none 0).length (prtCells (exOut t p none 0)) := by rw [hex]; exact Acc.nil _ _ _ _ _
   have hE : Acc w [] w101 61 5 (.slice none (lackE t p).length 0) (lackE t p).length (entCells (lackE t p)) := by rw [hLe]; exact Acc.nil _ _ _ _ _
   refine W_loop (fun k_ m_ w_ => ∃ (i : Nat) (od : Option Addr) (of : Nat) (eb : Option Addr) (ec : Nat) (q2 : Option Addr) (j2 : Int), p.es.length - i = k_ ∧ m_ = [(0, a5), (5, a10), (6, .slice od ((exOut t p eb ec).length) of), (9, a104), (38, a105), (39, .int .i64 ((p.es.length : Nat) : Int)), (40, .int .i64 ((i : Nat) : Int))] ∧ St [gs, bt, bm] w w_ [(gh, 52, [.int .i64 ((((⟨t, clock, 0, 0⟩ : Hd).all (p.es.take i)).tk : Nat) : Int), .int .i64 ((((⟨t, clock, 0, 0⟩ : Hd).all (p.es.take i)).rf : Nat) : Int)]), (gr, 52, [.int .i64 0, .int .i64 0]), (g4, 34, [.int .i64 p.k, .string p.r.lo, .string p.r.hi, .bool p.r.op, .int .i64 p.t.k, .int .u64 p.t.a, .int .u64 p.t.b, .slice p.eb p.es.length p.ec])] ∧ i ≤ p.es.length ∧ Sto w_ gs bm bt q2 node ((⟨t, clock, 0, 0⟩ : Hd).all (p.es.take i)).clock j2 ((⟨t, clock, 0, 0⟩ : Hd).all (p.es.take i)).t ∧ Acc w [] w_ 34 8 (.slice od (exOut t p eb ec).length of) (exOut t p eb ec).length (prtCells (exOut t p eb ec)) ∧ Acc w [] w_ 61 5 (.slice eb (lackE t p).length ec) (lackE t p).length (entCells (lackE t p))) ⟨0, none, 0, none, 0, q, j, rfl, by rw [hex]; rfl, st102, Nat.zero_le _, hS, hO, hE⟩ ?_
   rintro _ _ w107 ⟨i, od, of, eb, ec, q2, j2, rfl, rfl, st106, hil, hS, hO, hE⟩
   have hlE := ownsRow.lt hE.own
   have hsz9 := Hd.all_size (p.es.take i) ⟨t, clock, 0, 0⟩
   simp only [List.length_take] at hsz9
   generalize hSS : ((⟨t, clock, 0, 0⟩ : Hd).all (p.es.take i)) = s at *
   refine W_seq <| W_region ?_
   let a108 : Value := .slice od ((exOut t p eb ec).length) of
   let a109 : Value := .slice p.eb p.es.length p.ec
   refine RP_sg 1 [.p (.bool (decide (((i : Nat) : Int) < ((p.es.length : Nat) : Int))))] [(0, a5), (5, a10), (6, a108), (9, a104), (38, a109), (39, .int .i64 ((p.es.length : Nat) : Int)), (40, .int .i64 ((i : Nat) : Int)), (41, .bool (decide (((i : Nat) : Int) < ((p.es.length : Nat) : Int))))] trivial ?_
   refine RP_nil <| n_then <| W_seq <| W_cond rfl (fun c41_110 => ?_) (fun c41_110 => ?_)
   ·
    have c41_110p := of_decide_eq_true c41_110
    refine W_skip <| n_then <| W_seq <| W_block <| W_seq <| W_region ?_
    have hlt : i < p.es.length := by omega
    obtain ⟨e, he⟩ : ∃ e, p.es[i]? = some e := ⟨p.es[i], by simp [hlt]⟩
    have hbs := hin.some_ (by rw [entCells_len]; omega)
    refine RP_q rfl (v := .pointer (some ⟨(sp p.eb), so p.eb + i * 5, none⟩)) (ev_indexI idxEnt rfl rfl hbs hlt) ?_
    let a111 : Value := .agg #[.string e.key, .int .i64 e.c, .int .i64 e.n, .string e.val, .bool e.dead]
    refine RP_sg 1 [.l 61 (.pointer (some ⟨(sp p.eb), so p.eb + i * 5, none⟩)) a111] [(0, a5), (5, a10), (6, a108), (9, a104), (38, a109), (39, .int .i64 ((p.es.length : Nat) : Int)), (40, .int .i64 ((i : Nat) : Int)), (43, a111)] ⟨InS.loadN agg_61 ((hin.extd st106.ext hsep).ext0 (Ext.refl [] _)) (entCells_at he) rfl (by decide), trivial⟩ ?_
    refine RP_e rfl (ef_alloc st106 zero_61 rfl) ?_
    rintro _ w112 ⟨ge, rfl, hge, hge', st113, hx114⟩
    replace st113 : St [gs, bt, bm] w w112 [(ge, 61, [.string (⟨#[]⟩ : ByteArray), .int .i64 0, .int .i64 0, .string (⟨#[]⟩ : ByteArray), .bool false]), (gh, 52, [.int .i64 ((s.tk : Nat) : Int), .int .i64 ((s.rf : Nat) : Int)]), (gr, 52, [.int .i64 0, .int .i64 0]), (g4, 34, [.int .i64 p.k, .string p.r.lo, .string p.r.hi, .bool p.r.op, .int .i64 p.t.k, .int .u64 p.t.a, .int .u64 p.t.b, .slice p.eb p.es.length p.ec])] := st113
    replace hS := hS.ext0 hx114
    replace hO := hO.ext hx114 (by simp)
    replace hE := hE.ext hx114 (by simp)
    refine RP_e rfl (ef_store st113 rfl rfl rfl size_61 0 rfl rfl rfl rfl (.inr hge)) ?_
    rintro _ w115 ⟨rfl, st116, hx117⟩
    replace st116 : St [gs, bt, bm] w w115 [(ge, 61, [.string e.key, .int .i64 e.c, .int .i64 e.n, .string e.val, .bool e.dead]), (gh, 52, [.int .i64 ((s.tk : Nat) : Int), .int .i64 ((s.rf : Nat) : Int)]), (gr, 52, [.int .i64 0, .int .i64 0]), (g4, 34, [.int .i64 p.k, .string p.r.lo, .string p.r.hi, .bool p.r.op, .int .i64 p.t.k, .int .u64 p.t.a, .int .u64 p.t.b, .slice p.eb p.es.length p.ec])] := st116
    replace hS := hS.ext1 hx117 (st113.get 0 rfl) (by decide) (by decide) (by decide) (by decide)
    replace hO := hO.ext hx117 (hO.not_blk (st113.get 0 rfl) (by decide))
    replace hE := hE.ext hx117 (fun q hq hm => by simp only [List.mem_singleton] at hm; have := (hlE q hq).1; omega)
    let a118 : Value := .pointer (some ⟨ge, 0, none⟩)
    refine RP_pk [(0, a5), (5, a10), (6, a108), (9, a104), (11, a118), (38, a109), (39, .int .i64 ((p.es.length : Nat) : Int)), (40, .int .i64 ((i : Nat) : Int))] ?_
    refine RP_nil <| n_then <| W_seq <| W_region <| RP_sg 2 [.p a5, .l 61 a118 a111] [(0, a5), (5, a10), (6, a108), (9, a104), (38, a109), (39, .int .i64 ((p.es.length : Nat) : Int)), (40, .int .i64 ((i : Nat) : Int)), (45, a5), (46, a111)] ⟨ldN st116 agg_61 0 rfl rfl rfl, trivial⟩ ?_
    refine RP_e rfl (ef_call (k := 25) (args := [a5, a111]) (take_cr e (hl.ext st116.ext hg0) hS (by omega)) body_25 (by kernel_rfl)) ?_
    rintro _ w119 ⟨_, rfl, rfl, ⟨q3, j3, hS2⟩, hx121⟩
    have st120 := st116.call hx121 (st116.apartS hS rfl) (by simp)
    replace hO := hO.ext hx121 (hO.apartS hS rfl)
    replace hE := hE.ext hx121 (hE.apartS hS rfl)
    replace hS := hS2
    refine RP_sg 5 [.p (.tuple #[.bool (takes s.t e), .int .i64 (takeErr s.t e)]), .p (.bool (takes s.t e)), .p (.int .i64 (takeErr s.t e)), .p (.bool (takes s.t e)), .p (.int .i64 (takeErr s.t e))] [(0, a5), (5, a10), (6, a108), (9, a104), (12, .bool (takes s.t e)), (13, .int .i64 (takeErr s.t e)), (38, a109), (39, .int .i64 ((p.es.length : Nat) : Int)), (40, .int .i64 ((i : Nat) : Int))] trivial ?_
    refine RP_nil <| n_then <| W_block <| W_seq <| W_region <| RP_sg 3 [.p (.int .i64 (takeErr s.t e)), .p (.bool ((takeErr s.t e) == 80)), .p (.bool ((takeErr s.t e) == 80))] [(0, a5), (5, a10), (6, a108), (9, a104), (12, .bool (takes s.t e)), (38, a109), (39, .int .i64 ((p.es.length : Nat) : Int)), (40, .int .i64 ((i : Nat) : Int)), (50, .bool ((takeErr s.t e) == 80))] trivial ?_
    refine RP_nil <| n_then <| W_cond rfl (fun c50_122 => ?_) (fun c50_122 => ?_)
    ·
     refine W_region ?_
     let a123 : Value := .pointer (some ⟨gh, 1, none⟩)
     refine RP_sg 4 [.p a123, .l 3 a123 (.int .i64 ((s.rf : Nat) : Int)), .p (.int .i64 (IntKind.i64.wrap (((s.rf : Nat) : Int) + 1))), .p a123] [(0, a5), (5, a10), (6, a108), (9, a104), (38, a109), (39, .int .i64 ((p.es.length : Nat) : Int)), (40, .int .i64 ((i : Nat) : Int)), (55, .int .i64 (IntKind.i64.wrap (((s.rf : Nat) : Int) + 1))), (56, a123)] ⟨ld1 st120 nagg_3 1 rfl rfl, trivial⟩ ?_
     refine RP_e rfl (ef_store st120 rfl rfl rfl size_3 1 rfl rfl rfl rfl (.inr hgh)) ?_
     rintro _ w124 ⟨rfl, st125, hx126⟩
     replace st125 : St [gs, bt, bm] w w124 [(ge, 61, [.string e.key, .int .i64 e.c, .int .i64 e.n, .string e.val, .bool e.dead]), (gh, 52, [.int .i64 ((s.tk : Nat) : Int), .int .i64 (IntKind.i64.wrap (((s.rf : Nat) : Int) + 1))]), (gr, 52, [.int .i64 0, .int .i64 0]), (g4, 34, [.int .i64 p.k, .string p.r.lo, .string p.r.hi, .bool p.r.op, .int .i64 p.t.k, .int .u64 p.t.a, .int .u64 p.t.b, .slice p.eb p.es.length p.ec])] := st125
     replace hS := hS.ext1 hx126 (st120.get 1 rfl) (by decide) (by decide) (by decide) (by decide)
     replace hO := hO.ext hx126 (hO.not_blk (st120.get 1 rfl) (by decide))
     replace hE := hE.ext hx126 (hE.not_blk (st120.get 1 rfl) (by decide))
     refine RP_pk [(0, a5), (5, a10), (6, a108), (9, a104), (38, a109), (39, .int .i64 ((p.es.length : Nat) : Int)), (40, .int .i64 ((i : Nat) : Int))] ?_
     refine RP_nil <| n_block <| n_block <| n_then <| W_region <| RP_sg 2 [.p (.int .i64 (IntKind.i64.wrap (((i : Nat) : Int) + 1))), .p (.int .i64 (IntKind.i64.wrap (((i : Nat) : Int) + 1)))] [(0, a5), (5, a10), (6, a108), (9, a104), (38, a109), (39, .int .i64 ((p.es.length : Nat) : Int)), (40, .int .i64 (IntKind.i64.wrap (((i : Nat) : Int) + 1)))] trivial ?_
     refine RP_nil ?_
     have hst : (⟨t, clock, 0, 0⟩ : Hd).all (p.es.take (i + 1)) = s.step e := by rw [Hd.all_succ he, hSS]
     have h80 := c50_122
     have htk0 := takes_no80 (eq_of_beq h80)
     have hse : s.step e = ⟨s.t, s.clock, s.tk, s.rf + 1⟩ := by unfold Hd.step; rw [h80]; rfl
     rw [htk0] at hS
     rw [inc_w (n := s.rf) (by omega)] at st125
     exact ⟨_, by omega, (i + 1), od, of, eb, ec, q3, j3, rfl, by rw [inc_w (n := i) (by omega)], by rw [hst, hse]; exact st125.sub [] (by simp), by omega, by rw [hst, hse]; exact hS, hO, hE⟩
    ·
     refine W_seq <| W_region <| RP_sg 2 [.p (.bool (takes s.t e)), .p (.bool (takes s.t e))] [(0, a5), (5, a10), (6, a108), (9, a104), (38, a109), (39, .int .i64 ((p.es.length : Nat) : Int)), (40, .int .i64 ((i : Nat) : Int)), (57, .bool (takes s.t e))] trivial ?_
     refine RP_nil <| n_then <| W_cond rfl (fun c57_127 => ?_) (fun c57_127 => ?_)
     ·
      refine W_region <| RP_sg 4 [.p a104, .l 3 a104 (.int .i64 ((s.tk : Nat) : Int)), .p (.int .i64 (IntKind.i64.wrap (((s.tk : Nat) : Int) + 1))), .p a104] [(0, a5), (5, a10), (6, a108), (9, a104), (38, a109), (39, .int .i64 ((p.es.length : Nat) : Int)), (40, .int .i64 ((i : Nat) : Int)), (61, .int .i64 (IntKind.i64.wrap (((s.tk : Nat) : Int) + 1))), (62, a104)] ⟨ld1 st120 nagg_3 1 rfl rfl, trivial⟩ ?_
      refine RP_e rfl (ef_store st120 rfl rfl rfl size_3 1 rfl rfl rfl rfl (.inr hgh)) ?_
      rintro _ w128 ⟨rfl, st129, hx130⟩
      replace st129 : St [gs, bt, bm] w w128 [(ge, 61, [.string e.key, .int .i64 e.c, .int .i64 e.n, .string e.val, .bool e.dead]), (gh, 52, [.int .i64 (IntKind.i64.wrap (((s.tk : Nat) : Int) + 1)), .int .i64 ((s.rf : Nat) : Int)]), (gr, 52, [.int .i64 0, .int .i64 0]), (g4, 34, [.int .i64 p.k, .string p.r.lo, .string p.r.hi, .bool p.r.op, .int .i64 p.t.k, .int .u64 p.t.a, .int .u64 p.t.b, .slice p.eb p.es.length p.ec])] := st129
      replace hS := hS.ext1 hx130 (st120.get 1 rfl) (by decide) (by decide) (by decide) (by decide)
      replace hO := hO.ext hx130 (hO.not_blk (st120.get 1 rfl) (by decide))
      replace hE := hE.ext hx130 (hE.not_blk (st120.get 1 rfl) (by decide))
      refine RP_pk [(0, a5), (5, a10), (6, a108), (9, a104), (38, a109), (39, .int .i64 ((p.es.length : Nat) : Int)), (40, .int .i64 ((i : Nat) : Int))] ?_
      refine RP_nil <| n_block <| n_block <| n_then <| W_region <| RP_sg 2 [.p (.int .i64 (IntKind.i64.wrap (((i : Nat) : Int) + 1))), .p (.int .i64 (IntKind.i64.wrap (((i : Nat) : Int) + 1)))] [(0, a5), (5, a10), (6, a108), (9, a104), (38, a109), (39, .int .i64 ((p.es.length : Nat) : Int)), (40, .int .i64 (IntKind.i64.wrap (((i : Nat) : Int) + 1)))] trivial ?_
      refine RP_nil ?_
      have hst : (⟨t, clock, 0, 0⟩ : Hd).all (p.es.take (i + 1)) = s.step e := by rw [Hd.all_succ he, hSS]
      have hse : s.step e = ⟨T.put e s.t, max s.clock e.c, s.tk + 1, s.rf⟩ := by unfold Hd.step; rw [c50_122, c57_127]; rfl
      rw [c57_127] at hS
      rw [inc_w (n := s.tk) (by omega)] at st129
      exact ⟨_, by omega, (i + 1), od, of, eb, ec, q3, j3, rfl, by rw [inc_w (n := i) (by omega)], by rw [hst, hse]; exact st129.sub [] (by simp), by omega, by rw [hst, hse]; exact hS, hO, hE⟩
     ·
      refine W_skip <| n_block <| n_block <| n_then <| W_region <| RP_sg 2 [.p (.int .i64 (IntKind.i64.wrap (((i : Nat) : Int) + 1))), .p (.int .i64 (IntKind.i64.wrap (((i : Nat) : Int) + 1)))] [(0, a5), (5, a10), (6, a108), (9, a104), (38, a109), (39, .int .i64 ((p.es.length : Nat) : Int)), (40, .int .i64 (IntKind.i64.wrap (((i : Nat) : Int) + 1)))] trivial ?_
      refine RP_nil ?_
      have hst : (⟨t, clock, 0, 0⟩ : Hd).all (p.es.take (i + 1)) = s.step e := by rw [Hd.all_succ he, hSS]
      have hse : s.step e = s := by unfold Hd.step; rw [c50_122, c57_127]; rfl
      rw [c57_127] at hS
      exact ⟨_, by omega, (i + 1), od, of, eb, ec, q3, j3, rfl, by rw [inc_w (n := i) (by omega)], by rw [hst, hse]; exact st120.sub [] (by simp), by omega, by rw [hst, hse]; exact hS, hO, hE⟩
   ·
    have c41_110p := of_decide_eq_false c41_110
    refine W_exit ?_
    refine e_then <| e_loop <| e_here ?_
    refine n_then <| W_seq <| W_regionS ⟨(fun w' => Blk w' gh 52 [.int .i64 ((s.tk : Nat) : Int), .int .i64 ((s.rf : Nat) : Int)].toArray), (fun _ => True)⟩ (.cons 1 0 (.cons 1 1 (.cons 1 2 (.cons 3 3 .nil)))) 4 (by kernel_rfl) (by kernel_rfl) ?_
    have st131 := st106.drew
    replace hS := hS.ext0 (Ext.refl [] _).drew
    replace hO := hO.drew
    replace hE := hE.drew
    let a132 : Value := .agg #[.int .i64 ((s.tk : Nat) : Int), .int .i64 ((s.rf : Nat) : Int)]
    refine RS_sg 3 [.p a108, .l 52 a104 a132, .p a108] [(4, a108), (5, a10), (65, a132)] (st131.get 0 rfl) (fun _ hS => ⟨ldNb (hS) agg_52 rfl rfl, trivial⟩) ?_
    refine RS_f rfl rfl (ef_store st131 rfl rfl rfl size_52 1 rfl rfl rfl rfl (.inr hgr)) ?_
    rintro _ w133 ⟨rfl, st134, hx135⟩
    replace st134 : St [gs, bt, bm] w w133 [(gh, 52, [.int .i64 ((s.tk : Nat) : Int), .int .i64 ((s.rf : Nat) : Int)]), (gr, 52, [.int .i64 ((s.tk : Nat) : Int), .int .i64 ((s.rf : Nat) : Int)]), (g4, 34, [.int .i64 p.k, .string p.r.lo, .string p.r.hi, .bool p.r.op, .int .i64 p.t.k, .int .u64 p.t.a, .int .u64 p.t.b, .slice p.eb p.es.length p.ec])] := st134
    replace hS := hS.ext1 hx135 (st131.get 1 rfl) (by decide) (by decide) (by decide) (by decide)
    replace hO := hO.ext hx135 (hO.not_blk (st131.get 1 rfl) (by decide))
    replace hE := hE.ext hx135 (hE.not_blk (st131.get 1 rfl) (by decide))
    refine RS_pk [(4, a108), (5, a10)] ?_
    refine RS_nil <| n_then <| W_ret ?_
    have hiL : i = p.es.length := by omega
    rw [hiL, List.take_length] at hSS
    rw [hSS]
    refine ret_of (P := Tryd.prog) (fn := Tryd.f51) (m := [(4, .slice od ((exOut t p eb ec).length) of), (5, .pointer (some ⟨gr, 0, none⟩))]) (w := w133) (res2 rfl (rv_tmp rfl) (rv_cell rfl (by simpa [Instr.loadAt, Instr.sureAddr] using (ldN st134 agg_52 1 rfl rfl rfl)))) ?_
    exact ⟨od, of, eb, ec, rfl, hO, fun _ => hE, ⟨_, _, hS⟩, st134.ext⟩
end Go.Proofs.YtcopemgkjbaaeaaDoor
namespace Go.Proofs.YtcopemgkjbaaeaaDoor
set_option linter.all false
open Go.RowKit
def exErr (p : Prt) : Int := cond (checkParts [p] != 0) (checkParts [p]) (cond (p.k == 1) 114 0)
def exHd (t : T) (clock : Int) (p : Prt) : Hd := cond (exErr p != 0) ⟨t, clock, 0, 0⟩ ((⟨t, clock, 0, 0⟩ : Hd).all p.es)
def exParts (t : T) (p : Prt) (eb : Option Addr) (ec : Nat) : List Prt := cond (exErr p != 0) [] (exOut t p eb ec)
theorem checkParts_room {p : Prt} (h : checkParts [p] = 0) : p.es.length ≤ 256 := by
  unfold checkParts at h
  have h1 : decide (((([p] : List Prt).length : Nat) : Int) > 768) = false := by simp
  rw [h1, cond_false] at h
  have h2 : roomE 256 [p] = 0 := by
    cases hr : roomE 256 [p] != 0
    · simpa using hr
    · rw [hr] at h; simp only [cond_true] at h; exact h
  have := room_ok [p] 256 h2 (by decide) p (List.mem_singleton.2 rfl)
  omega
theorem exE_acc {t : T} {p : Prt} {w w1 w' : World} {eb : Option Addr} {ec : Nat} (h : exOut t p eb ec ≠ [] → Acc w1 [] w' 61 5 (.slice eb (lackE t p).length ec) (lackE t p).length (entCells (lackE t p))) (hs : w.heap.size ≤ w1.heap.size) :
    Acc w [] w' 61 5 (.slice (cond (decide (((lackE t p).length : Int) > 0)) eb none) (lackE t p).length (cond (decide (((lackE t p).length : Int) > 0)) ec 0)) (lackE t p).length (entCells (lackE t p)) := by
  cases hd : decide (((lackE t p).length : Int) > 0)
  · have := of_decide_eq_false hd
    have hz : lackE t p = [] := List.eq_nil_of_length_eq_zero (by omega)
    rw [hz]; exact Acc.nil _ _ _ _ _
  · exact (h (by unfold exOut; rw [hd]; simp)).since hs
theorem exE_pos {t : T} {p : Prt} {eb : Option Addr} {ec : Nat} (h : cond false [] (exOut t p eb ec) ≠ []) : decide (((lackE t p).length : Int) > 0) = true := by
  cases hd : decide (((lackE t p).length : Int) > 0)
  · exfalso; apply h; unfold exOut; rw [hd]; rfl
  · rfl
theorem Exchange_cr {w : World} {gs bm bt : Nat} {q : Option Addr} {node clock j : Int} {t : T} (p : Prt) (hl : Lanes w) (hS : Sto w gs bm bt q node clock j t) (hs : t.size ≤ 700) (hin : InS w p.eb (entCells p.es)) (hes : p.es.length < 1000000) (hsep : entCells p.es = [] ∨ sp p.eb ∉ [gs, bt, bm]) :
    CR Tryd.prog 17 [.pointer (some ⟨gs, 0, none⟩), p.v] w fun v w' => ∃ d f eb ec, v = .tuple #[.slice d (exParts t p eb ec).length f, .agg #[.int .i64 (((exHd t clock p).tk : Nat) : Int), .int .i64 (((exHd t clock p).rf : Nat) : Int)], .int .i64 (exErr p)] ∧
      Acc w [] w' 34 8 (.slice d (exParts t p eb ec).length f) (exParts t p eb ec).length (prtCells (exParts t p eb ec)) ∧ (exParts t p eb ec ≠ [] → Acc w [] w' 61 5 (.slice eb (lackE t p).length ec) (lackE t p).length (entCells (lackE t p))) ∧
      (∃ q' j', Sto w' gs bm bt q' node (exHd t clock p).clock j' (exHd t clock p).t) ∧ Ext [gs, bt, bm] w w' := by
  have hg0 := hS.not0 hl
  have st := St.init w [gs, bt, bm]
  refine CR_enter Tryd.func17 rfl Tryd.ntmps17 rfl ?_
  refine W_seq <| W_region <| RP_e rfl (ef_box st rfl rfl) ?_
  rintro _ w1 ⟨g4, rfl, hg4, hg4', st2, hx3⟩
  replace st2 : St [gs, bt, bm] w w1 [(g4, 34, [.int .i64 p.k, .string p.r.lo, .string p.r.hi, .bool p.r.op, .int .i64 p.t.k, .int .u64 p.t.a, .int .u64 p.t.b, .slice p.eb p.es.length p.ec])] := st2
  replace hS := hS.ext0 hx3
  let a5 : Value := .pointer (some ⟨gs, 0, none⟩)
  let a6 : Value := .pointer (some ⟨g4, 0, none⟩)
  refine RP_sg 1 [.p (.slice none 0 0)] [(0, a5), (3, a6)] trivial ?_
  refine RP_e rfl (ef_alloc st2 zero_52 rfl) ?_
  rintro _ w7 ⟨gr, rfl, hgr, hgr', st8, hx9⟩
  replace st8 : St [gs, bt, bm] w w7 [(gr, 52, [.int .i64 0, .int .i64 0]), (g4, 34, [.int .i64 p.k, .string p.r.lo, .string p.r.hi, .bool p.r.op, .int .i64 p.t.k, .int .u64 p.t.a, .int .u64 p.t.b, .slice p.eb p.es.length p.ec])] := st8
  replace hS := hS.ext0 hx9
  let a10 : Value := .pointer (some ⟨gr, 0, none⟩)
  refine RP_sg 1 [.p (.int .i64 0)] [(0, a5), (3, a6), (5, a10)] trivial ?_
  refine RP_nil <| n_then <| W_seq <| W_seq <| W_region ?_
  let a11 : Value := .agg #[.int .i64 p.k, .string p.r.lo, .string p.r.hi, .bool p.r.op, .int .i64 p.t.k, .int .u64 p.t.a, .int .u64 p.t.b, .slice p.eb p.es.length p.ec]
  refine RP_sg 1 [.l 34 a6 a11] [(0, a5), (3, a6), (5, a10), (10, a11)] ⟨ldN st8 agg_34 1 rfl rfl rfl, trivial⟩ ?_
  refine RP_e rfl (ef_new (t := 34) (cs := [.int .i64 p.k, .string p.r.lo, .string p.r.hi, .bool p.r.op, .int .i64 p.t.k, .int .u64 p.t.a, .int .u64 p.t.b, .slice p.eb p.es.length p.ec]) (fun g => .slice (some ⟨g, 0, none⟩) 1 1) st8 rfl rfl (fun _ => by kernel_rfl)) ?_
  rintro _ w12 ⟨g15, rfl, hg15, hg15', st13, hx14⟩
  replace hS := hS.ext0 hx14
  refine RP_e rfl (ef_call (k := 47) (args := [.slice (some ⟨g15, 0, none⟩) 1 1]) (checkParts_cr [p] (InS.of_blk (st13.get 0 rfl)) (fun x hx => by simp only [List.mem_singleton] at hx; subst hx; exact (hin.extd st13.ext hsep)) (fun x hx => by simp only [List.mem_singleton] at hx; subst hx; exact hes)) body_47 (by kernel_rfl)) ?_
  rintro _ w16 ⟨_, rfl, rfl, hx18⟩
  have st17 := st13.call0 hx18
  replace hS := hS.ext0 hx18
  refine RP_sg 1 [.p (.int .i64 (checkParts [p]))] [(0, a5), (3, a6), (5, a10), (7, .int .i64 (checkParts [p]))] trivial ?_
  refine RP_nil <| n_then <| W_seq <| W_region <| RP_sg 2 [.p (.int .i64 (checkParts [p])), .p (.bool ((checkParts [p]) != 0))] [(0, a5), (3, a6), (5, a10), (7, .int .i64 (checkParts [p])), (14, .bool ((checkParts [p]) != 0))] trivial ?_
  refine RP_nil <| n_then <| W_cond rfl (fun c14_19 => ?_) (fun c14_19 => ?_)
  ·
   refine W_seq <| W_region ?_
   let a20 : Value := .slice none 0 0
   let a21 : Value := .agg #[.int .i64 0, .int .i64 0]
   refine RP_sg 3 [.p a21, .p (.int .i64 (checkParts [p])), .p a20] [(4, a20), (5, a10), (15, a21), (16, .int .i64 (checkParts [p]))] trivial ?_
   refine RP_e rfl (ef_store st17 rfl rfl rfl size_52 1 rfl rfl rfl rfl (.inr hgr)) ?_
   rintro _ w22 ⟨rfl, st23, hx24⟩
   replace st23 : St [gs, bt, bm] w w22 [(g15, 34, [.int .i64 p.k, .string p.r.lo, .string p.r.hi, .bool p.r.op, .int .i64 p.t.k, .int .u64 p.t.a, .int .u64 p.t.b, .slice p.eb p.es.length p.ec]), (gr, 52, [.int .i64 0, .int .i64 0]), (g4, 34, [.int .i64 p.k, .string p.r.lo, .string p.r.hi, .bool p.r.op, .int .i64 p.t.k, .int .u64 p.t.a, .int .u64 p.t.b, .slice p.eb p.es.length p.ec])] := st23
   replace hS := hS.ext1 hx24 (st17.get 1 rfl) (by decide) (by decide) (by decide) (by decide)
   refine RP_sg 1 [.p (.int .i64 (checkParts [p]))] [(4, a20), (5, a10), (6, .int .i64 (checkParts [p]))] trivial ?_
   refine RP_nil <| n_then <| W_ret <| r_then ?_
   have he : exErr p = checkParts [p] := by unfold exErr; (try rw [c14_19]); rfl
   have he2 : (exErr p != 0) = true := by rw [he]; exact c14_19
   refine ret_of (P := Tryd.prog) (fn := Tryd.f17) (m := [(4, .slice none 0 0), (5, .pointer (some ⟨gr, 0, none⟩)), (6, .int .i64 (checkParts [p]))]) (w := w22) (res3 rfl (rv_tmp rfl) (rv_cell rfl (by simpa [Instr.loadAt, Instr.sureAddr] using (ldN st23 agg_52 1 rfl rfl rfl))) (rv_tmp rfl)) ?_
   exact ⟨none, 0, none, 0, by unfold exParts exHd; rw [he2, he]; rfl, by unfold exParts; rw [he2]; exact Acc.nil _ _ _ _ _, fun hne => absurd (by unfold exParts; rw [he2]; rfl) hne, by unfold exHd; rw [he2]; exact ⟨_, _, hS⟩, st23.ext⟩
  ·
   refine W_skip <| n_then <| W_seq <| W_seq <| W_region <| RP_sg 3 [.p a6, .l 3 a6 (.int .i64 p.k), .p (.bool (p.k == 1))] [(0, a5), (3, a6), (5, a10), (19, .bool (p.k == 1))] ⟨ld1 st17 nagg_3 2 rfl rfl, trivial⟩ ?_
   refine RP_nil <| n_then <| W_cond rfl (fun c19_25 => ?_) (fun c19_25 => ?_)
   ·
    refine W_seq <| W_region ?_
    let a26 : Value := .slice none 0 0
    let a27 : Value := .agg #[.int .i64 0, .int .i64 0]
    refine RP_sg 2 [.p a27, .p a26] [(4, a26), (5, a10), (20, a27)] trivial ?_
    refine RP_e rfl (ef_store st17 rfl rfl rfl size_52 1 rfl rfl rfl rfl (.inr hgr)) ?_
    rintro _ w28 ⟨rfl, st29, hx30⟩
    replace st29 : St [gs, bt, bm] w w28 [(g15, 34, [.int .i64 p.k, .string p.r.lo, .string p.r.hi, .bool p.r.op, .int .i64 p.t.k, .int .u64 p.t.a, .int .u64 p.t.b, .slice p.eb p.es.length p.ec]), (gr, 52, [.int .i64 0, .int .i64 0]), (g4, 34, [.int .i64 p.k, .string p.r.lo, .string p.r.hi, .bool p.r.op, .int .i64 p.t.k, .int .u64 p.t.a, .int .u64 p.t.b, .slice p.eb p.es.length p.ec])] := st29
    replace hS := hS.ext1 hx30 (st17.get 1 rfl) (by decide) (by decide) (by decide) (by decide)
    refine RP_sg 1 [.p (.int .i64 114)] [(4, a26), (5, a10), (6, .int .i64 114)] trivial ?_
    refine RP_nil <| n_then <| W_ret <| r_then ?_
    have he : exErr p = 114 := by unfold exErr; (try rw [c14_19]); (try rw [c19_25]); rfl
    have he2 : (exErr p != 0) = true := by rw [he]; exact rfl
    refine ret_of (P := Tryd.prog) (fn := Tryd.f17) (m := [(4, .slice none 0 0), (5, .pointer (some ⟨gr, 0, none⟩)), (6, .int .i64 114)]) (w := w28) (res3 rfl (rv_tmp rfl) (rv_cell rfl (by simpa [Instr.loadAt, Instr.sureAddr] using (ldN st29 agg_52 1 rfl rfl rfl))) (rv_tmp rfl)) ?_
    exact ⟨none, 0, none, 0, by unfold exParts exHd; rw [he2, he]; rfl, by unfold exParts; rw [he2]; exact Acc.nil _ _ _ _ _, fun hne => absurd (by unfold exParts; rw [he2]; rfl) hne, by unfold exHd; rw [he2]; exact ⟨_, _, hS⟩, st29.ext⟩
   ·
    refine W_skip <| n_then <| W_seq <| W_region <| RP_sg 2 [.p a5, .l 34 a6 a11] [(5, a10), (22, a5), (23, a11)] ⟨ldN st17 agg_34 2 rfl rfl rfl, trivial⟩ ?_
    have hc0 : checkParts [p] = 0 := by simpa using c14_19
    refine RP_e rfl (ef_call (k := 51) (args := [a5, a11]) (exchange_cr p (hl.ext st17.ext hg0) hS (by omega) (hin.extd st17.ext hsep) (by have := checkParts_room hc0; omega) hsep) body_51 (by kernel_rfl)) ?_
    rintro _ w31 ⟨_, rfl, od, of, eb, ec, rfl, hO, hE, ⟨q3, j3, hS2⟩, hx33⟩
    have st32 := st17.call hx33 (st17.apartS hS rfl) (by simp)
    replace hS := hS2
    replace hO := Acc.since (w0 := w) hO st17.ext.size
    have hsz9 := st17.ext.size
    have hE : Acc w [] _ 61 5 (.slice (cond (decide (((lackE t p).length : Int) > 0)) eb none) (lackE t p).length (cond (decide (((lackE t p).length : Int) > 0)) ec 0)) (lackE t p).length (entCells (lackE t p)) := exE_acc hE hsz9
    let a34 : Value := .slice od ((exOut t p eb ec).length) of
    let a35 : Value := .agg #[.int .i64 ((((⟨t, clock, 0, 0⟩ : Hd).all p.es).tk : Nat) : Int), .int .i64 ((((⟨t, clock, 0, 0⟩ : Hd).all p.es).rf : Nat) : Int)]
    refine RP_sg 3 [.p (.tuple #[a34, a35]), .p a34, .p a35] [(5, a10), (25, a34), (26, a35)] trivial ?_
    refine RP_e rfl (ef_alloc st32 zero_52 rfl) ?_
    rintro _ w36 ⟨g9, rfl, hg9, hg9', st37, hx38⟩
    replace st37 : St [gs, bt, bm] w w36 [(g9, 52, [.int .i64 0, .int .i64 0]), (g15, 34, [.int .i64 p.k, .string p.r.lo, .string p.r.hi, .bool p.r.op, .int .i64 p.t.k, .int .u64 p.t.a, .int .u64 p.t.b, .slice p.eb p.es.length p.ec]), (gr, 52, [.int .i64 0, .int .i64 0]), (g4, 34, [.int .i64 p.k, .string p.r.lo, .string p.r.hi, .bool p.r.op, .int .i64 p.t.k, .int .u64 p.t.a, .int .u64 p.t.b, .slice p.eb p.es.length p.ec])] := st37
    replace hS := hS.ext0 hx38
    replace hO := hO.ext hx38 (by simp)
    replace hE := hE.ext hx38 (by simp)
    let a39 : Value := .pointer (some ⟨g9, 0, none⟩)
    refine RP_sg 1 [.p a34] [(5, a10), (8, a34), (9, a39), (26, a35)] trivial ?_
    refine RP_e rfl (ef_store st37 rfl rfl rfl size_52 0 rfl rfl rfl rfl (.inr hg9)) ?_
    rintro _ w40 ⟨rfl, st41, hx42⟩
    replace st41 : St [gs, bt, bm] w w40 [(g9, 52, [.int .i64 ((((⟨t, clock, 0, 0⟩ : Hd).all p.es).tk : Nat) : Int), .int .i64 ((((⟨t, clock, 0, 0⟩ : Hd).all p.es).rf : Nat) : Int)]), (g15, 34, [.int .i64 p.k, .string p.r.lo, .string p.r.hi, .bool p.r.op, .int .i64 p.t.k, .int .u64 p.t.a, .int .u64 p.t.b, .slice p.eb p.es.length p.ec]), (gr, 52, [.int .i64 0, .int .i64 0]), (g4, 34, [.int .i64 p.k, .string p.r.lo, .string p.r.hi, .bool p.r.op, .int .i64 p.t.k, .int .u64 p.t.a, .int .u64 p.t.b, .slice p.eb p.es.length p.ec])] := st41
    replace hS := hS.ext1 hx42 (st37.get 0 rfl) (by decide) (by decide) (by decide) (by decide)
    replace hO := hO.ext hx42 (hO.not_blk (st37.get 0 rfl) (by decide))
    replace hE := hE.ext hx42 (hE.not_blk (st37.get 0 rfl) (by decide))
    refine RP_pk [(5, a10), (8, a34), (9, a39)] ?_
    refine RP_nil <| n_then <| W_seq <| W_regionS ⟨(fun w' => Blk w' g9 52 [.int .i64 ((((⟨t, clock, 0, 0⟩ : Hd).all p.es).tk : Nat) : Int), .int .i64 ((((⟨t, clock, 0, 0⟩ : Hd).all p.es).rf : Nat) : Int)].toArray), (fun _ => True)⟩ (.cons 1 0 (.cons 1 1 (.cons 1 2 (.cons 3 3 (.cons 0 4 .nil))))) 5 (by kernel_rfl) (by kernel_rfl) ?_
    have st43 := st41.drew
    replace hS := hS.ext0 (Ext.refl [] _).drew
    replace hO := hO.drew
    replace hE := hE.drew
    refine RS_sg 3 [.p a34, .l 52 a39 a35, .p a34] [(4, a34), (5, a10), (28, a35)] (st43.get 0 rfl) (fun _ hS => ⟨ldNb (hS) agg_52 rfl rfl, trivial⟩) ?_
    refine RS_f rfl rfl (ef_store st43 rfl rfl rfl size_52 2 rfl rfl rfl rfl (.inr hgr)) ?_
    rintro _ w44 ⟨rfl, st45, hx46⟩
    replace st45 : St [gs, bt, bm] w w44 [(g9, 52, [.int .i64 ((((⟨t, clock, 0, 0⟩ : Hd).all p.es).tk : Nat) : Int), .int .i64 ((((⟨t, clock, 0, 0⟩ : Hd).all p.es).rf : Nat) : Int)]), (g15, 34, [.int .i64 p.k, .string p.r.lo, .string p.r.hi, .bool p.r.op, .int .i64 p.t.k, .int .u64 p.t.a, .int .u64 p.t.b, .slice p.eb p.es.length p.ec]), (gr, 52, [.int .i64 ((((⟨t, clock, 0, 0⟩ : Hd).all p.es).tk : Nat) : Int), .int .i64 ((((⟨t, clock, 0, 0⟩ : Hd).all p.es).rf : Nat) : Int)]), (g4, 34, [.int .i64 p.k, .string p.r.lo, .string p.r.hi, .bool p.r.op, .int .i64 p.t.k, .int .u64 p.t.a, .int .u64 p.t.b, .slice p.eb p.es.length p.ec])] := st45
    replace hS := hS.ext1 hx46 (st43.get 2 rfl) (by decide) (by decide) (by decide) (by decide)
    replace hO := hO.ext hx46 (hO.not_blk (st43.get 2 rfl) (by decide))
    replace hE := hE.ext hx46 (hE.not_blk (st43.get 2 rfl) (by decide))
    refine RS_sgP 1 [.p (.int .i64 0)] [(4, a34), (5, a10), (6, .int .i64 0)] (fun _ => trivial) ?_
    refine RS_nil <| n_then <| W_ret ?_
    have he : exErr p = 0 := by unfold exErr; (try rw [c14_19]); (try rw [c19_25]); rfl
    have he2 : (exErr p != 0) = false := by rw [he]; rfl
    refine ret_of (P := Tryd.prog) (fn := Tryd.f17) (m := [(4, .slice od ((exOut t p eb ec).length) of), (5, .pointer (some ⟨gr, 0, none⟩)), (6, .int .i64 0)]) (w := w44) (res3 rfl (rv_tmp rfl) (rv_cell rfl (by simpa [Instr.loadAt, Instr.sureAddr] using (ldN st45 agg_52 2 rfl rfl rfl))) (rv_tmp rfl)) ?_
    exact ⟨od, of, eb, ec, by unfold exParts exHd; rw [he2, he]; rfl, by unfold exParts; rw [he2]; exact hO, fun hne => (by unfold exParts at hne; rw [he2] at hne; rw [exE_pos hne] at hE; exact hE), by unfold exHd; rw [he2]; exact ⟨_, _, hS⟩, st45.ext⟩
end Go.Proofs.YtcopemgkjbaaeaaDoor
namespace Go.Proofs.YtcopemgkjbaaeaaDoor
set_option linter.all false
open Go.RowKit
def Rng.hk (r : Rng) (k : Key) : Bool := (r.check == 0) && (decide (((k.length : Nat) : Int) ≤ 16) && (!kl k r.lo.toList && (r.op || kl k r.hi.toList)))
theorem holds_hk (r : Rng) (e : Ent) : r.holds e.key = r.hk e.k := by
  unfold Rng.holds Rng.hk kle Rng.below Ent.k
  rw [size_toList, blt_total]
  rfl
structure Ok (l : List Ent) : Prop where
  srt : Srt l
  chk : ∀ e ∈ l, e.check = 0
theorem Ok.nil : Ok [] := ⟨Srt.nil, fun _ h => by cases h⟩
theorem Ok.sub {l m : List Ent} (h : Ok m) (hs : l.Sublist m) : Ok l := ⟨h.srt.sub hs, fun e he => h.chk e (hs.subset he)⟩
theorem Ok.key {l : List Ent} (h : Ok l) {e : Ent} (he : e ∈ l) : e.k.length ≤ 16 := by
  have := check_key (h.chk e he)
  unfold Ent.k; rw [size_toList]; exact this
theorem check_c {e : Ent} (h : e.check = 0) : 1 ≤ e.c := by
  unfold Ent.check at h
  cases h1 : decide (((e.key.size : Nat) : Int) > 16)
  · rw [h1] at h
    cases h2 : verOk e.c e.n
    · rw [h2] at h; cases h
    · unfold verOk at h2
      simp only [Bool.and_eq_true, decide_eq_true_eq] at h2
      exact h2.1
  · rw [h1] at h; cases h
theorem chkM_ok : ∀ (p : Option Ent) (l : List Ent), chkM p l = 0 ↔ Ok l ∧ ∀ q, p = some q → ∀ x ∈ l, kl q.k x.k = true
  | p, [] => by simp [chkM, Ok.nil]
  | p, e :: l => by
    have ih := chkM_ok (some e) l
    have key : okM p e = 0 ↔ e.check = 0 ∧ ∀ q, p = some q → kl q.k e.k = true := by
      unfold okM
      cases h1 : e.check != 0
      · have hz : e.check = 0 := by simpa using h1
        cases p with
        | none => simp [hz]
        | some q =>
          show (bif !kl q.k e.k then (90 : Int) else 0) = 0 ↔ _
          cases h2 : kl q.k e.k <;> simp [hz, h2]
      · have hz : e.check ≠ 0 := by simpa using h1
        simp [hz]
    rw [chkM]
    constructor
    · intro h
      cases h1 : okM p e != 0
      · rw [h1] at h
        have hz : okM p e = 0 := by simpa using h1
        obtain ⟨k1, k2⟩ := key.1 hz
        obtain ⟨i1, i2⟩ := ih.1 h
        refine ⟨⟨Srt.cons.2 ⟨i2 e rfl, i1.srt⟩, fun x hx => ?_⟩, fun q hq x hx => ?_⟩
        · rcases List.mem_cons.1 hx with rfl | hx
          · exact k1
          · exact i1.chk x hx
        · rcases List.mem_cons.1 hx with rfl | hx
          · exact k2 q hq
          · exact kl_trans (k2 q hq) (i2 e rfl x hx)
      · rw [h1] at h
        have hz : okM p e ≠ 0 := by simpa using h1
        exact absurd h hz
    · rintro ⟨h1, h2⟩
      have hz : okM p e = 0 := key.2 ⟨h1.chk e List.mem_cons_self, fun q hq => h2 q hq e List.mem_cons_self⟩
      rw [hz]
      exact ih.2 ⟨h1.sub (List.sublist_cons_self _ _), fun q hq x hx => by injection hq with hq; subst hq; exact (Srt.cons.1 h1.srt).1 x hx⟩
theorem chkM_none (l : List Ent) : chkM none l = 0 ↔ Ok l := by rw [chkM_ok]; simp
theorem chk2_ok {A B : List Ent} (hA : Ok A) (hB : Ok B) : chk2 A B = 0 := by
  unfold chk2; rw [(chkM_none A).2 hA, (chkM_none B).2 hB]; rfl
theorem loadE_ok (clock : Int) : ∀ (p : Option Ent) (l : List Ent), loadE clock p l = 0 → Ok l ∧ (∀ q, p = some q → ∀ x ∈ l, kl q.k x.k = true) ∧ ∀ x ∈ l, x.c ≤ clock
  | p, [], _ => by simp [Ok.nil]
  | p, e :: l, h => by
    have ih := loadE_ok clock (some e) l
    rw [loadE] at h
    cases h1 : okE clock p e != 0
    · rw [h1] at h
      have hz : okE clock p e = 0 := by simpa using h1
      obtain ⟨i1, i2, i3⟩ := ih h
      have key : e.check = 0 ∧ (∀ q, p = some q → kl q.k e.k = true) ∧ e.c ≤ clock := by
        unfold okE at hz
        cases h1 : e.check != 0
        · rw [h1] at hz
          have hc : e.check = 0 := by simpa using h1
          cases p with
          | none =>
            simp only [cond_false] at hz
            cases h3 : decide (e.c > clock)
            · exact ⟨hc, (fun q hq => by cases hq), by have := of_decide_eq_false h3; omega⟩
            · rw [h3] at hz; cases hz
          | some q =>
            have hz' : (bif !kl q.k e.k then (90 : Int) else bif decide (e.c > clock) then 30 else 0) = 0 := hz
            cases h2 : kl q.k e.k
            · rw [h2] at hz'; cases hz'
            · rw [h2] at hz'
              cases h3 : decide (e.c > clock)
              · exact ⟨hc, (fun q' hq => by injection hq with hq; subst hq; exact h2), by have := of_decide_eq_false h3; omega⟩
              · rw [h3] at hz'; cases hz'
        · rw [h1] at hz
          exact absurd hz (by simpa using h1)
      refine ⟨⟨Srt.cons.2 ⟨i2 e rfl, i1.srt⟩, fun x hx => ?_⟩, fun q hq x hx => ?_, fun x hx => ?_⟩
      · rcases List.mem_cons.1 hx with rfl | hx
        · exact key.1
        · exact i1.chk x hx
      · rcases List.mem_cons.1 hx with rfl | hx
        · exact key.2.1 q hq
        · exact kl_trans (key.2.1 q hq) (i2 e rfl x hx)
      · rcases List.mem_cons.1 hx with rfl | hx
        · exact key.2.2
        · exact i3 x hx
    · rw [h1] at h
      exact absurd h (by simpa using h1)
theorem loadErr_srt {node clock : Int} {l : List Ent} (h : loadErr node clock l = 0) : Ok l := by
  have h2 : loadE clock none l = 0 := by
    unfold loadErr at h
    revert h
    cases decide (node < 0) <;> cases decide (node ≥ 8) <;> cases decide (clock < 0) <;> cases decide (clock > 1099511627776) <;> cases decide (((l.length : Nat) : Int) > 256) <;> simp
  exact (loadE_ok clock none l h2).1
theorem T.load_list : ∀ {l : List Ent}, Srt l → (T.load l).list = l := by
  intro l
  have key : ∀ (l : List Ent) (t : T), Srt (t.list ++ l) → (l.foldl (fun t e => T.put e t) t).list = t.list ++ l := by
    intro l
    induction l with
    | nil => intro t _; simp
    | cons e l ih =>
      intro t h
      obtain ⟨h1, h2, h3, h4⟩ := Srt.app h
      have hp : (T.put e t).list = t.list ++ [e] := by rw [T.put_list e t h1, ins_last h3]
      rw [List.foldl_cons, ih _ (by rw [hp]; simpa using h), hp]; simp
  intro h
  exact key l .nil (by simpa [T.list] using h)
theorem T.rowsR_list {t : T} {r : Rng} (hs : Ok t.list) (hr : r.check = 0) : t.rowsR r = t.list.filter fun e => r.hk e.k := by
  have hr' : (r.check != 0) = false := by rw [hr]; rfl
  unfold T.rowsR
  rw [hr', cond_false, T.rows_list _ _ _ (by omega), T.rank_list _ _ hs.srt]
  simp only [Int.toNat_natCast]
  have hf : ∀ (l : List Ent), (∀ e ∈ l, e ∈ t.list) → (l.filter fun e => r.hk e.k) = l.filter fun e => !kl e.k r.lo.toList && (r.op || kl e.k r.hi.toList) := fun l hl => by
    refine List.filter_congr fun e he => ?_
    unfold Rng.hk
    rw [hr, decide_eq_true (by have := hs.key (hl e he); omega)]
    simp
  rw [hf _ fun _ h => h]
  unfold T.rankHi
  cases hop : r.op
  · rw [cond_false, T.rank_list _ _ hs.srt, take_cnt _ hs.srt]
    have hlo : kl r.hi.toList r.lo.toList = false := by
      unfold Rng.check at hr
      rw [hop] at hr
      cases h1 : decide (((r.lo.size : Nat) : Int) > 16)
      · cases h2 : decide (((r.hi.size : Nat) : Int) > 16)
        · rw [h1, h2] at hr
          cases h3 : kgt r.lo r.hi
          · rw [kgt_kl] at h3; exact h3
          · rw [h3] at hr; cases hr
        · rw [h1, h2] at hr; cases hr
      · rw [h1] at hr; cases hr
    have hs2 : Srt (t.list.filter fun x => kl x.k r.hi.toList) := hs.srt.sub List.filter_sublist
    have hc : cnt t.list r.lo.toList = cnt (t.list.filter fun x => kl x.k r.hi.toList) r.lo.toList := by
      unfold cnt
      rw [List.filter_filter]
      congr 1
      refine List.filter_congr fun e he => ?_
      cases h1 : kl e.k r.lo.toList
      · rfl
      · rw [Bool.true_and, eq_comm]
        rcases kl_total r.lo.toList r.hi.toList with h2 | h2 | h2
        · exact kl_trans h1 h2
        · rw [← h2]; exact h1
        · rw [hlo] at h2; cases h2
    rw [hc, drop_cnt _ hs2, List.filter_filter]
    simp
  · rw [cond_true, T.size_list, List.take_length, drop_cnt _ hs.srt]
    simp
theorem hk_whole {k : Key} (h : k.length ≤ 16) : (⟨⟨#[]⟩, ⟨#[]⟩, true⟩ : Rng).hk k = true := by
  unfold Rng.hk
  rw [show (⟨⟨#[]⟩, ⟨#[]⟩, true⟩ : Rng).check = 0 from by kernel_rfl, decide_eq_true (by omega)]
  have : kl k [] = false := by cases k <;> rfl
  have h0 : (⟨#[]⟩ : ByteArray).toList = [] := by rw [ByteArray.toList_eq]
  simp [h0, this]
theorem T.rowsR_whole {t : T} (hs : Ok t.list) : t.rowsR ⟨⟨#[]⟩, ⟨#[]⟩, true⟩ = t.list := by
  rw [T.rowsR_list hs (by kernel_rfl), List.filter_eq_self]
  exact fun e he => hk_whole (hs.key he)
theorem inL_filter (L : List Ent) (r : Rng) : inL L r = L.filter fun e => r.hk e.k := by
  unfold inL
  exact List.filter_congr fun e _ => holds_hk r e
theorem inErr_ok {L : List Ent} {r : Rng} (h : Ok L) (hr : r.check = 0) : inErr L r = 0 := by
  unfold inErr; rw [(chkM_none L).2 h, hr]; rfl
def tkF (l : List Ent) (e : Ent) : Bool := !(lk l e.k).isSome && decide (((l.length : Nat) : Int) ≥ 256)
def tkOk (l : List Ent) (e : Ent) : Bool := !tkF l e && !((lk l e.k).isSome && !newer e (entO (lk l e.k)))
theorem takes_list {t : T} {e : Ent} (hs : Srt t.list) (he : e.check = 0) : takes t e = tkOk t.list e := by
  unfold takes tkOk tkF T.fullB
  rw [T.get_list _ _ hs, T.size_list, he]; rfl
theorem takeErr_list {t : T} {e : Ent} (hs : Srt t.list) (he : e.check = 0) : takeErr t e = cond (tkF t.list e) 80 0 := by
  unfold takeErr tkF T.fullB
  rw [T.get_list _ _ hs, T.size_list, he]; rfl
theorem ins_ok {l : List Ent} {e : Ent} (h : Ok l) (he : e.check = 0) : Ok (ins e l) := ⟨ins_srt h.srt, fun x hx => by
  rcases ins_mem hx with rfl | hx
  · exact he
  · exact h.chk x hx⟩
theorem Hd.step_list {s : Hd} {e : Ent} (hs : Ok s.t.list) (he : e.check = 0) (h256 : s.t.list.length ≤ 256) :
    Ok (s.step e).t.list ∧ (s.step e).t.list.length ≤ 256 ∧ s.t.list.length ≤ (s.step e).t.list.length ∧ (s.rf ≤ (s.step e).rf) ∧ (s.rf < (s.step e).rf → (s.step e).t.list.length = 256) ∧
    ((s.step e).rf = s.rf → ∀ k, lk (s.step e).t.list k = cond (e.k == k) (match lk s.t.list k with | none => some e | some y => some (cond (newer e y) e y)) (lk s.t.list k)) := by
  unfold Hd.step
  rw [takeErr_list hs.srt he, takes_list hs.srt he]
  cases hf : tkF s.t.list e
  · simp only [cond_false]
    have h0 : ((0 : Int) == 80) = false := rfl
    rw [h0, cond_false]
    unfold tkOk
    rw [hf]
    simp only [Bool.not_false, Bool.true_and]
    cases hk : lk s.t.list e.k with
    | none =>
      simp only [Option.isSome_none, Bool.false_and, Bool.not_false, cond_true]
      unfold tkF at hf
      rw [hk] at hf
      simp only [Option.isSome_none, Bool.not_false, Bool.true_and, decide_eq_false_iff_not] at hf
      have hl := ins_len (e := e) hs.srt
      rw [hk] at hl
      simp only [Option.isSome_none, cond_false] at hl
      rw [T.put_list e _ hs.srt]
      refine ⟨ins_ok hs he, by omega, by omega, Nat.le_refl _, fun h => absurd h (Nat.lt_irrefl _), fun _ k => ?_⟩
      rw [lk_ins hs.srt]
      by_cases hek : e.k = k
      · subst hek; simp [hk]
      · rw [show (e.k == k) = false from by simpa using hek]; rfl
    | some y =>
      simp only [Option.isSome_some, Bool.true_and, entO, Option.getD_some, Bool.not_not]
      cases hn : newer e y
      · simp only [cond_false]
        refine ⟨hs, h256, Nat.le_refl _, Nat.le_refl _, fun h => absurd h (Nat.lt_irrefl _), fun _ k => ?_⟩
        by_cases hek : e.k = k
        · subst hek; simp [hk, hn]
        · rw [show (e.k == k) = false from by simpa using hek]; rfl
      · simp only [cond_true]
        have hl := ins_len (e := e) hs.srt
        rw [hk] at hl
        simp only [Option.isSome_some, cond_true] at hl
        rw [T.put_list e _ hs.srt]
        refine ⟨ins_ok hs he, by omega, by omega, Nat.le_refl _, fun h => absurd h (Nat.lt_irrefl _), fun _ k => ?_⟩
        rw [lk_ins hs.srt]
        by_cases hek : e.k = k
        · subst hek; simp [hk, hn]
        · rw [show (e.k == k) = false from by simpa using hek]; rfl
  · simp only [cond_true]
    have h0 : ((80 : Int) == 80) = true := rfl
    rw [h0, cond_true]
    unfold tkF at hf
    simp only [Bool.and_eq_true, decide_eq_true_eq] at hf
    exact ⟨hs, h256, Nat.le_refl _, Nat.le_succ _, fun _ => by show s.t.list.length = 256; omega, fun h => absurd (show s.rf + 1 = s.rf from h) (by omega)⟩
theorem Hd.all_list : ∀ (E : List Ent) (s : Hd), Ok E → Ok s.t.list → s.t.list.length ≤ 256 →
    Ok (s.all E).t.list ∧ (s.all E).t.list.length ≤ 256 ∧ s.t.list.length ≤ (s.all E).t.list.length ∧ s.rf ≤ (s.all E).rf ∧ (s.rf < (s.all E).rf → (s.all E).t.list.length = 256) ∧
    ((s.all E).rf = s.rf → ∀ k, lk (s.all E).t.list k = match lk E k with | none => lk s.t.list k | some e => (match lk s.t.list k with | none => some e | some y => some (cond (newer e y) e y)))
  | [], s, _, hs, h256 => ⟨hs, h256, Nat.le_refl _, Nat.le_refl _, fun h => absurd h (Nat.lt_irrefl _), fun _ k => rfl⟩
  | e :: E, s, hE, hs, h256 => by
    obtain ⟨a1, a2, a3, a4, a5, a6⟩ := Hd.step_list hs (hE.chk e List.mem_cons_self) h256
    obtain ⟨b1, b2, b3, b4, b5, b6⟩ := Hd.all_list E (s.step e) (hE.sub (List.sublist_cons_self _ _)) a1 a2
    have e2 : s.all (e :: E) = (s.step e).all E := rfl
    rw [e2]
    refine ⟨b1, b2, Nat.le_trans a3 b3, Nat.le_trans a4 b4, fun h => ?_, fun h k => ?_⟩
    · rcases Nat.lt_or_ge s.rf (s.step e).rf with h1 | h1
      · have := a5 h1; omega
      · exact b5 (by omega)
    · have h1 : (s.step e).rf = s.rf := by omega
      rw [b6 (by omega), a6 h1, lk_cons]
      by_cases hk : e.k = k
      · subst hk
        rw [lk_gt hE.srt]; simp
      · rw [show (e.k == k) = false from by simpa using hk]; rfl
end Go.Proofs.YtcopemgkjbaaeaaDoor
namespace Go.Proofs.YtcopemgkjbaaeaaDoor
set_option linter.all false
open Go.RowKit
theorem ref09Check_cr {w : World} {b : Option Addr} {c : Nat} (L : List Ent) (hin : InS w b (entCells L)) (hL : L.length < 1000000) :
    CR Tryd.prog 49 [.slice b L.length c] w fun v w' => v = .int .i64 (chkM none L) ∧ Ext [] w w' := by
  have st := St.init w []
  refine CR_enter Tryd.func49 rfl Tryd.ntmps49 rfl ?_
  refine W_seq <| W_region ?_
  let a1 : Value := .slice b L.length c
  refine RP_sg 1 [.p (.int .i64 0)] [(0, a1)] trivial ?_
  refine RP_nil <| n_then <| W_seq <| W_seq <| W_region <| RP_sg 1 [.p (.int .i64 0)] [(0, a1), (3, .int .i64 0)] trivial ?_
  refine RP_nil <| n_then <| W_block <| W_loop (fun k_ m_ w_ => ∃ (i : Nat), L.length - i = k_ ∧ m_ = [(0, a1), (3, .int .i64 ((i : Nat) : Int))] ∧ St [] w w_ [] ∧ i ≤ L.length ∧ chkM (prevE L i) (L.drop i) = chkM none L) ⟨0, rfl, rfl, st, Nat.zero_le _, rfl⟩ ?_
  rintro _ _ w3 ⟨i, rfl, rfl, st2, hil, hle⟩
  refine W_seq <| W_seq <| W_region <| RP_sg 4 [.p (.int .i64 ((i : Nat) : Int)), .p a1, .p (.int .i64 ((L.length : Nat) : Int)), .p (.bool (decide (((i : Nat) : Int) < ((L.length : Nat) : Int))))] [(0, a1), (3, .int .i64 ((i : Nat) : Int)), (8, .bool (decide (((i : Nat) : Int) < ((L.length : Nat) : Int))))] trivial ?_
  refine RP_nil <| n_then <| W_cond rfl (fun c8_4 => ?_) (fun c8_4 => ?_)
  ·
   have c8_4p := of_decide_eq_true c8_4
   refine W_skip <| n_then <| W_seq <| W_block <| W_seq <| W_region <| RP_sg 2 [.p a1, .p (.int .i64 ((i : Nat) : Int))] [(0, a1), (3, .int .i64 ((i : Nat) : Int)), (11, a1), (12, .int .i64 ((i : Nat) : Int))] trivial ?_
   have hlt : i < L.length := by omega
   obtain ⟨e, he⟩ : ∃ e, L[i]? = some e := ⟨L[i], by simp [hlt]⟩
   have hbs := hin.some_ (by rw [entCells_len]; omega)
   refine RP_q rfl (v := .pointer (some ⟨(sp b), so b + i * 5, none⟩)) (ev_indexI idxEnt rfl rfl hbs hlt) ?_
   let a5 : Value := .agg #[.string e.key, .int .i64 e.c, .int .i64 e.n, .string e.val, .bool e.dead]
   refine RP_sg 1 [.l 61 (.pointer (some ⟨(sp b), so b + i * 5, none⟩)) a5] [(0, a1), (3, .int .i64 ((i : Nat) : Int)), (14, a5)] ⟨InS.loadN agg_61 (hin.ext0 st2.ext) (entCells_at he) rfl (by decide), trivial⟩ ?_
   refine RP_e rfl (ef_call (k := 98) (args := [a5]) (ref03_cr e _) body_98 (by kernel_rfl)) ?_
   rintro _ w6 ⟨_, rfl, rfl, hx8⟩
   have st7 := st2.call0 hx8
   refine RP_sg 1 [.p (.int .i64 e.check)] [(0, a1), (3, .int .i64 ((i : Nat) : Int)), (4, .int .i64 e.check)] trivial ?_
   refine RP_nil <| n_then <| W_seq <| W_seq <| W_region <| RP_sg 2 [.p (.int .i64 e.check), .p (.bool (e.check != 0))] [(0, a1), (3, .int .i64 ((i : Nat) : Int)), (4, .int .i64 e.check), (17, .bool (e.check != 0))] trivial ?_
   refine RP_nil <| n_then <| W_cond rfl (fun c17_9 => ?_) (fun c17_9 => ?_)
   ·
    refine W_seq <| W_region <| RP_sg 2 [.p (.int .i64 e.check), .p (.int .i64 e.check)] [(2, .int .i64 e.check)] trivial ?_
    refine RP_nil <| n_then <| W_ret <| r_then <| r_block <| r_then <| r_loop <| r_block <| r_then ?_
    have hok : okM (prevE L i) e = e.check := by unfold okM; rw [c17_9]; rfl
    have hnz : (e.check : Int) ≠ 0 := by simpa using c17_9
    have hz : chkM none L = e.check := by rw [← hle, chkM_drop L he, hok, show ((e.check : Int) != 0) = true from by simpa using hnz]; rfl
    refine ret_of (P := Tryd.prog) (fn := Tryd.f49) (m := [(2, .int .i64 e.check)]) (w := w6) (res1 rfl (rv_tmp rfl)) ?_
    exact ⟨by rw [hz], st7.ext⟩
   ·
    refine W_skip <| n_then <| W_seq <| W_regionS ⟨(fun w' => InS w' b (entCells L)), (fun _ => True)⟩ (.cons 1 0 (.cons 1 1 (.cons 1 2 (.cons 1 3 (.cons 1 4 (.cons 1 5 (.cons 1 6 (.cons 1 7 (.cons 1 8 (.cons 1 9 (.cons 1 10 (.cons 1 11 (.cons 1 12 (.cons 1 13 (.cons 1 14 (.cons 1 15 .nil)))))))))))))))) 16 (by kernel_rfl) (by kernel_rfl) ?_
    have st10 := st7.drew
    refine RS_sg 3 [.p (.int .i64 ((i : Nat) : Int)), .p (.bool (decide (((i : Nat) : Int) > 0))), .p (.bool (decide (((i : Nat) : Int) > 0)))] [(0, a1), (3, .int .i64 ((i : Nat) : Int)), (21, .bool (decide (((i : Nat) : Int) > 0)))] (hin.ext0 st10.ext) (fun _ hS => trivial) ?_
    rcases Bool.eq_false_or_eq_true (decide (((i : Nat) : Int) > 0)) with c21_11 | c21_11
    ·
     have c21_11p := of_decide_eq_true c21_11
     refine RS_at (m' := [(0, a1), (3, .int .i64 ((i : Nat) : Int)), (21, .bool true)]) (by rw [c21_11]) ?_
     refine RS_sg 2 [.p a1, .p (.int .i64 ((i : Nat) : Int))] [(0, a1), (3, .int .i64 ((i : Nat) : Int)), (21, .bool true), (22, a1), (23, .int .i64 ((i : Nat) : Int))] (hin.ext0 st10.ext) (fun _ hS => trivial) ?_
     refine RS_gq rfl rfl rfl (hin.ext0 st10.ext) (v := .pointer (some ⟨(sp b), so b + i * 5, none⟩)) (fun _ _ => ev_indexI idxEnt rfl rfl hbs hlt) ?_
     refine RS_sg 5 [.p (.pointer (some ⟨(sp b), so b + i * 5, none⟩)), .l 9 (.pointer (some ⟨(sp b), so b + i * 5, none⟩)) (.string e.key), .p a1, .p (.int .i64 ((i : Nat) : Int)), .p (.int .i64 (IntKind.i64.wrap (((i : Nat) : Int) - 1)))] [(0, a1), (3, .int .i64 ((i : Nat) : Int)), (21, .bool true), (26, .string e.key), (27, a1), (29, .int .i64 (IntKind.i64.wrap (((i : Nat) : Int) - 1)))] (hin.ext0 st10.ext) (fun _ hS => ⟨(InS.load1 nagg_9 (hS) (entCells_0 he rfl)), trivial⟩) ?_
     refine RS_at (m' := [(0, a1), (3, .int .i64 ((i : Nat) : Int)), (21, .bool true), (26, .string e.key), (27, a1), (29, .int .i64 (((i - 1) : Nat) : Int))]) (by rw [show IntKind.i64.wrap (((i : Nat) : Int) - 1) = ((i - 1 : Nat) : Int) by rw [wrap_in (by omega) (by omega)]; omega]) ?_
     obtain ⟨e0, he0⟩ : ∃ e, L[i - 1]? = some e := ⟨L[i - 1], by simp⟩
     refine RS_gq rfl rfl rfl (hin.ext0 st10.ext) (v := .pointer (some ⟨(sp b), so b + (i - 1) * 5, none⟩)) (fun _ _ => ev_indexI idxEnt rfl rfl hbs (by omega)) ?_
     refine RS_sg 4 [.p (.pointer (some ⟨(sp b), so b + (i - 1) * 5, none⟩)), .l 9 (.pointer (some ⟨(sp b), so b + (i - 1) * 5, none⟩)) (.string e0.key), .p (.bool (Op.bytesLess (e.key).toList (e0.key).toList || (e.key).toList == (e0.key).toList)), .p (.bool (Op.bytesLess (e.key).toList (e0.key).toList || (e.key).toList == (e0.key).toList))] [(0, a1), (3, .int .i64 ((i : Nat) : Int)), (34, .bool (Op.bytesLess (e.key).toList (e0.key).toList || (e.key).toList == (e0.key).toList))] (hin.ext0 st10.ext) (fun _ hS => ⟨(InS.load1 nagg_9 (hS) (entCells_0 he0 rfl)), trivial⟩) ?_
     refine RS_nil <| n_then <| W_cond rfl (fun c34_12 => ?_) (fun c34_12 => ?_)
     ·
      refine W_seq <| W_region <| RP_sg 1 [.p (.int .i64 90)] [(2, .int .i64 90)] trivial ?_
      refine RP_nil <| n_then <| W_ret <| r_block <| r_then <| r_loop <| r_block <| r_then ?_
      have hp : prevE L i = some e0 := by unfold prevE; rw [if_neg (by omega)]; exact he0
      have hkk := c34_12
      rw [blt_total] at hkk
      have hok : okM (prevE L i) e = 90 := by unfold okM; rw [c17_9, hp]; (try dsimp only); (try rw [hkk]); rfl
      have hnz : (90 : Int) ≠ 0 := (by decide : (90 : Int) ≠ 0)
      have hz : chkM none L = 90 := by rw [← hle, chkM_drop L he, hok, show ((90 : Int) != 0) = true from by simpa using hnz]; rfl
      refine ret_of (P := Tryd.prog) (fn := Tryd.f49) (m := [(2, .int .i64 90)]) (w := w6.drew) (res1 rfl (rv_tmp rfl)) ?_
      exact ⟨by rw [hz], st10.ext⟩
     ·
      refine W_skip <| n_block <| n_then <| W_region <| RP_sg 3 [.p (.int .i64 ((i : Nat) : Int)), .p (.int .i64 (IntKind.i64.wrap (((i : Nat) : Int) + 1))), .p (.int .i64 (IntKind.i64.wrap (((i : Nat) : Int) + 1)))] [(0, a1), (3, .int .i64 (IntKind.i64.wrap (((i : Nat) : Int) + 1)))] trivial ?_
      refine RP_nil ?_
      have hp : prevE L i = some e0 := by unfold prevE; rw [if_neg (by omega)]; exact he0
      have hkk := c34_12
      rw [blt_total] at hkk
      have hok : okM (prevE L i) e = 0 := by unfold okM; rw [c17_9, hp]; (try dsimp only); (try rw [hkk]); rfl
      have hz : chkM (prevE L (i + 1)) (L.drop (i + 1)) = chkM none L := by rw [← hle, chkM_drop L he, hok]; rfl
      exact ⟨_, by omega, (i + 1), rfl, by rw [inc_w (n := i) (by omega)], st10, by omega, hz⟩
    ·
     have c21_11p := of_decide_eq_false c21_11
     refine RS_at (m' := [(0, a1), (3, .int .i64 ((i : Nat) : Int)), (21, .bool false)]) (by rw [c21_11]) ?_
     refine RS_sg 13 [.no, .no, .no, .no, .no, .no, .no, .no, .no, .no, .no, .no, .p (.bool false)] [(0, a1), (3, .int .i64 ((i : Nat) : Int)), (34, .bool false)] (hin.ext0 st10.ext) (fun _ hS => trivial) ?_
     refine RS_nil <| n_then <| W_false rfl ?_
     refine W_skip <| n_block <| n_then <| W_region <| RP_sg 3 [.p (.int .i64 ((i : Nat) : Int)), .p (.int .i64 (IntKind.i64.wrap (((i : Nat) : Int) + 1))), .p (.int .i64 (IntKind.i64.wrap (((i : Nat) : Int) + 1)))] [(0, a1), (3, .int .i64 (IntKind.i64.wrap (((i : Nat) : Int) + 1)))] trivial ?_
     refine RP_nil ?_
     have hp : prevE L i = none := by unfold prevE; rw [if_pos (by omega)]
     have hok : okM (prevE L i) e = 0 := by unfold okM; rw [c17_9, hp]; (try dsimp only);  rfl
     have hz : chkM (prevE L (i + 1)) (L.drop (i + 1)) = chkM none L := by rw [← hle, chkM_drop L he, hok]; rfl
     exact ⟨_, by omega, (i + 1), rfl, by rw [inc_w (n := i) (by omega)], st10, by omega, hz⟩
  ·
   have c8_4p := of_decide_eq_false c8_4
   refine W_exit ?_
   refine e_then <| e_loop <| e_here ?_
   refine n_then <| W_seq <| W_region <| RP_sg 1 [.p (.int .i64 0)] [(2, .int .i64 0)] trivial ?_
   refine RP_nil <| n_then <| W_ret ?_
   have hiL : i = L.length := by omega
   rw [hiL, List.drop_length] at hle
   have hz : chkM none L = 0 := hle.symm
   refine ret_of (P := Tryd.prog) (fn := Tryd.f49) (m := [(2, .int .i64 0)]) (w := w3) (res1 rfl (rv_tmp rfl)) ?_
   exact ⟨by rw [hz], st2.ext⟩
theorem ref09check2_cr {w : World} {b d : Option Addr} {c f : Nat} (A B : List Ent) (ha : InS w b (entCells A)) (hb : InS w d (entCells B)) (hA : A.length < 1000000) (hB : B.length < 1000000) :
    CR Tryd.prog 52 [.slice b A.length c, .slice d B.length f] w fun v w' => v = .int .i64 (chk2 A B) ∧ Ext [] w w' := by
  have st := St.init w []
  unfold chk2
  refine CR_enter Tryd.func52 rfl Tryd.ntmps52 rfl ?_
  refine W_seq <| W_region ?_
  let a1 : Value := .slice b A.length c
  let a2 : Value := .slice d B.length f
  refine RP_sg 1 [.p (.int .i64 0)] [(0, a1), (1, a2)] trivial ?_
  refine RP_nil <| n_then <| W_seq <| W_region <| RP_sg 1 [.p a1] [(1, a2), (6, a1)] trivial ?_
  refine RP_e rfl (ef_call (k := 49) (args := [a1]) (ref09Check_cr A (ha.ext0 st.ext) hA) body_49 (by kernel_rfl)) ?_
  rintro _ w3 ⟨_, rfl, rfl, hx5⟩
  have st4 := st.call0 hx5
  refine RP_sg 1 [.p (.int .i64 (chkM none A))] [(1, a2), (5, .int .i64 (chkM none A))] trivial ?_
  refine RP_nil <| n_then <| W_seq <| W_seq <| W_region <| RP_sg 2 [.p (.int .i64 (chkM none A)), .p (.bool ((chkM none A) != 0))] [(1, a2), (5, .int .i64 (chkM none A)), (9, .bool ((chkM none A) != 0))] trivial ?_
  refine RP_nil <| n_then <| W_cond rfl (fun c9_6 => ?_) (fun c9_6 => ?_)
  ·
   refine W_seq <| W_region <| RP_sg 2 [.p (.int .i64 (chkM none A)), .p (.int .i64 (chkM none A))] [(4, .int .i64 (chkM none A))] trivial ?_
   refine RP_nil <| n_then <| W_ret <| r_then ?_
   refine ret_of (P := Tryd.prog) (fn := Tryd.f52) (m := [(4, .int .i64 (chkM none A))]) (w := w3) (res1 rfl (rv_tmp rfl)) ?_
   exact ⟨by (try rw [c9_6]); rfl, st4.ext⟩
  ·
   refine W_skip <| n_then <| W_seq <| W_region <| RP_sg 1 [.p a2] [(11, a2)] trivial ?_
   refine RP_e rfl (ef_call (k := 49) (args := [a2]) (ref09Check_cr B (hb.ext0 st4.ext) hB) body_49 (by kernel_rfl)) ?_
   rintro _ w7 ⟨_, rfl, rfl, hx9⟩
   have st8 := st4.call0 hx9
   refine RP_sg 1 [.p (.int .i64 (chkM none B))] [(4, .int .i64 (chkM none B))] trivial ?_
   refine RP_nil <| n_then <| W_ret <| ret_of (P := Tryd.prog) (fn := Tryd.f52) (m := [(4, .int .i64 (chkM none B))]) (w := w7) (res1 rfl (rv_tmp rfl)) ?_
   exact ⟨by (try rw [c9_6]); rfl, st8.ext⟩
abbrev PL := List (Ent × Ent)
def pairCells (l : List (Ent × Ent)) : List Value := l.flatMap fun p => p.1.cells ++ p.2.cells
theorem pairCells_snoc (l : List (Ent × Ent)) (p : Ent × Ent) : pairCells (l ++ [p]) = pairCells l ++ (p.1.cells ++ p.2.cells) := by simp [pairCells]
theorem pairCells_at : ∀ {l : List (Ent × Ent)} {p : Ent × Ent} {n : Nat}, l[n]? = some p → ((pairCells l).drop (n * 10)).take 10 = p.1.cells ++ p.2.cells
  | [], _, _, h => by simp at h
  | a :: l, p, 0, h => by simp at h; subst h; simp [pairCells, Ent.cells]
  | a :: l, p, n + 1, h => by
    have ih := pairCells_at (l := l) (p := p) (n := n) (by simpa using h)
    rw [← ih]
    simp only [pairCells, List.flatMap_cons, Ent.cells]
    rw [show (n + 1) * 10 = 10 + n * 10 from by omega, ← List.drop_drop]
    rfl
theorem pairCells_len : ∀ l : List (Ent × Ent), (pairCells l).length = l.length * 10
  | [] => rfl
  | p :: l => by have := pairCells_len l; simp only [pairCells, List.flatMap_cons, List.length_append, List.length_cons, Ent.cells, List.length_nil] at *; omega
theorem pairCells_a {l : List (Ent × Ent)} {p : Ent × Ent} {n : Nat} (h : l[n]? = some p) : ((pairCells l).drop (n * 10)).take 5 = p.1.cells := by
  have := congrArg (List.take 5) (pairCells_at h)
  rw [List.take_take] at this
  exact this
theorem pairCells_b {l : List (Ent × Ent)} {p : Ent × Ent} {n : Nat} (h : l[n]? = some p) : ((pairCells l).drop (n * 10 + 5)).take 5 = p.2.cells := by
  have := congrArg (List.drop 5) (pairCells_at h)
  rw [List.drop_take, List.drop_drop] at this
  exact this
theorem InS.loadNf {P : Program} {w : World} {b : Option Addr} {cs : List Value} {vs : List Value} {o k q : Nat} {t : TypeId} (hA : Agg P t q) (hin : InS w b cs) (hv : (cs.drop (o + k)).take q = vs) (hl : vs.length = q) (hq : 0 < q) :
    (Instr.loadAt t (.pointer (some ⟨sp b, so b + o + k, none⟩))).run P w = .ok (.agg vs.toArray) w := by
  rw [Nat.add_assoc]; exact InS.loadN hA hin hv hl hq
theorem idxPair : IdxT Tryd.prog 112 116 10 := ⟨by kernel_rfl, size_116⟩
theorem appPair : AppT Tryd.prog 112 116 10 112 := ⟨by kernel_rfl, Tryd.t116, .agg #[.string ⟨#[]⟩, .int .i64 0, .int .i64 0, .string ⟨#[]⟩, .bool false, .string ⟨#[]⟩, .int .i64 0, .int .i64 0, .string ⟨#[]⟩, .bool false], by kernel_rfl, by kernel_rfl, rfl, rfl, rfl, by decide⟩
def pairsR (A B : List Ent) : List (Ent × Ent) := cond (chk2 A B != 0) [] (pairsL A B)
theorem ref09Pairs_cr {w : World} {ba bb : Option Addr} {ca cb : Nat} (A B : List Ent) (ha : InS w ba (entCells A)) (hb : InS w bb (entCells B)) (hA : A.length ≤ 10000) (hB : B.length ≤ 10000) :
    CR Tryd.prog 53 [.slice ba A.length ca, .slice bb B.length cb] w fun v w' => ∃ d f, v = .slice d (pairsR A B).length f ∧ Acc w [] w' 116 10 (.slice d (pairsR A B).length f) (pairsR A B).length (pairCells (pairsR A B)) ∧ Ext [] w w' := by
  have st := St.init w []
  have hbd := pairsL_le (A.length + B.length) A B
  refine CR_enter Tryd.func53 rfl Tryd.ntmps53 rfl ?_
  refine W_seq <| W_region ?_
  let a1 : Value := .slice ba A.length ca
  let a2 : Value := .slice bb B.length cb
  refine RP_sg 1 [.p (.slice none 0 0)] [(0, a1), (1, a2)] trivial ?_
  refine RP_nil <| n_then <| W_seq <| W_region <| RP_e rfl (ef_new (t := 116) (cs := []) (fun g => .slice (some ⟨g, 0, none⟩) 0 0) st rfl rfl (fun _ => by kernel_rfl)) ?_
  rintro _ w3 ⟨g8, rfl, hg8, hg8', st4, hx5⟩
  let a6 : Value := .slice (some ⟨g8, 0, none⟩) 0 0
  refine RP_sg 1 [.p a6] [(0, a1), (1, a2), (5, a6)] trivial ?_
  refine RP_nil <| n_then <| W_seq <| W_seq <| W_region <| RP_sg 2 [.p a1, .p a2] [(0, a1), (1, a2), (5, a6), (9, a1), (10, a2)] trivial ?_
  refine RP_e rfl (ef_call (k := 52) (args := [a1, a2]) (ref09check2_cr A B (ha.ext0 st4.ext) (hb.ext0 st4.ext) (by omega) (by omega)) body_52 (by kernel_rfl)) ?_
  rintro _ w7 ⟨_, rfl, rfl, hx9⟩
  have st8 := st4.call0 hx9
  refine RP_sg 1 [.p (.bool ((chk2 A B) != 0))] [(0, a1), (1, a2), (5, a6), (12, .bool ((chk2 A B) != 0))] trivial ?_
  refine RP_nil <| n_then <| W_cond rfl (fun c12_10 => ?_) (fun c12_10 => ?_)
  ·
   refine W_seq <| W_region <| RP_sg 2 [.p a6, .p a6] [(4, a6)] trivial ?_
   refine RP_nil <| n_then <| W_ret <| r_then ?_
   refine ret_of (P := Tryd.prog) (fn := Tryd.f53) (m := [(4, .slice (some ⟨g8, 0, none⟩) 0 0)]) (w := w7) (res1 rfl (rv_tmp rfl)) ?_
   exact ⟨_, _, by unfold pairsR; rw [c12_10]; rfl, by unfold pairsR; rw [c12_10]; exact Acc.of_new (size := 10) (j := 0) st8 0 rfl rfl (by decide) hg8, st8.ext⟩
  ·
   refine W_skip <| n_then <| W_seq <| W_region <| RP_sg 1 [.p (.int .i64 0)] [(0, a1), (1, a2), (5, a6), (6, .int .i64 0)] trivial ?_
   refine RP_nil <| n_then <| W_seq <| W_region <| RP_sg 1 [.p (.int .i64 0)] [(0, a1), (1, a2), (5, a6), (6, .int .i64 0), (7, .int .i64 0)] trivial ?_
   refine RP_nil <| n_then <| W_seq <| W_block <| W_loop (fun k_ m_ w_ => ∃ (i j : Nat) (pre : PL) (d : Option Addr) (f : Nat), (A.length - i) + (B.length - j) = k_ ∧ m_ = [(0, a1), (1, a2), (5, .slice d pre.length f), (6, .int .i64 ((i : Nat) : Int)), (7, .int .i64 ((j : Nat) : Int))] ∧ St [] w w_ [] ∧ Acc w [] w_ 116 10 (.slice d pre.length f) pre.length (pairCells pre) ∧ i ≤ A.length ∧ j ≤ B.length ∧ pre ++ pairsL (A.drop i) (B.drop j) = pairsL A B) ⟨0, 0, [], _, _, rfl, rfl, st8.sub0, Acc.of_new (size := 10) (j := 0) st8 0 rfl rfl (by decide) hg8, Nat.zero_le _, Nat.zero_le _, rfl⟩ ?_
   rintro _ _ w12 ⟨i, j, pre, d, f, rfl, rfl, st11, hac, hil, hjl, hpre⟩
   have hpl : pre.length ≤ A.length + B.length := by have h := congrArg List.length hpre; rw [List.length_append] at h; unfold pairsL at h; unfold pairsL at hbd; omega
   refine W_seq <| W_seq <| W_region ?_
   let a13 : Value := .slice d pre.length f
   refine RP_sg 5 [.p (.int .i64 ((i : Nat) : Int)), .p a1, .p (.int .i64 ((A.length : Nat) : Int)), .p (.bool (decide (((i : Nat) : Int) < ((A.length : Nat) : Int)))), .p (.bool (decide (((i : Nat) : Int) < ((A.length : Nat) : Int))))] [(0, a1), (1, a2), (5, a13), (6, .int .i64 ((i : Nat) : Int)), (7, .int .i64 ((j : Nat) : Int)), (18, .bool (decide (((i : Nat) : Int) < ((A.length : Nat) : Int))))] trivial ?_
   rcases Bool.eq_false_or_eq_true (decide (((i : Nat) : Int) < ((A.length : Nat) : Int))) with c18_14 | c18_14
   ·
    have c18_14p := of_decide_eq_true c18_14
    refine RP_at (m' := [(0, a1), (1, a2), (5, a13), (6, .int .i64 ((i : Nat) : Int)), (7, .int .i64 ((j : Nat) : Int)), (18, .bool true)]) (by rw [c18_14]) ?_
    refine RP_sg 5 [.no, .no, .no, .no, .p (.bool true)] [(0, a1), (1, a2), (5, a13), (6, .int .i64 ((i : Nat) : Int)), (7, .int .i64 ((j : Nat) : Int)), (23, .bool true)] trivial ?_
    refine RP_nil <| n_then <| W_true rfl ?_
    refine W_skip <| n_then <| W_block <| W_block <| W_seq <| W_regionS ⟨(fun w' => InS w' ba (entCells A) ∧ InS w' bb (entCells B)), (fun _ => True)⟩ (.cons 1 0 (.cons 1 1 (.cons 1 2 (.cons 1 3 (.cons 1 4 (.cons 1 5 (.cons 1 6 (.cons 1 7 (.cons 1 8 (.cons 1 9 (.cons 1 10 (.cons 1 11 (.cons 1 12 (.cons 1 13 (.cons 1 14 (.cons 1 15 (.cons 1 16 (.cons 1 17 (.cons 1 18 (.cons 1 19 (.cons 1 20 (.cons 1 21 (.cons 1 22 (.cons 1 23 .nil)))))))))))))))))))))))) 24 (by kernel_rfl) (by kernel_rfl) ?_
    have st15 := st11.drew
    replace hac := hac.drew
    refine RS_sg 5 [.p (.int .i64 ((j : Nat) : Int)), .p a2, .p (.int .i64 ((B.length : Nat) : Int)), .p (.bool (((j : Nat) : Int) == ((B.length : Nat) : Int))), .p (.bool (((j : Nat) : Int) == ((B.length : Nat) : Int)))] [(0, a1), (1, a2), (5, a13), (6, .int .i64 ((i : Nat) : Int)), (7, .int .i64 ((j : Nat) : Int)), (45, .bool (((j : Nat) : Int) == ((B.length : Nat) : Int)))] (⟨ha.ext0 st15.ext, hb.ext0 st15.ext⟩) (fun _ hS => trivial) ?_
    rcases Bool.eq_false_or_eq_true (((j : Nat) : Int) == ((B.length : Nat) : Int)) with c45_16 | c45_16
    ·
     try have c45_16p := eq_of_beq c45_16
     refine RS_at (m' := [(0, a1), (1, a2), (5, a13), (6, .int .i64 ((i : Nat) : Int)), (7, .int .i64 ((j : Nat) : Int)), (45, .bool true)]) (by rw [c45_16]) ?_
     refine RS_sg 19 [.no, .no, .no, .no, .no, .no, .no, .no, .no, .no, .no, .no, .no, .no, .no, .no, .no, .p (.bool true), .p (.bool true)] [(0, a1), (1, a2), (5, a13), (6, .int .i64 ((i : Nat) : Int)), (7, .int .i64 ((j : Nat) : Int)), (40, .bool true)] (⟨ha.ext0 st15.ext, hb.ext0 st15.ext⟩) (fun _ hS => trivial) ?_
     refine RS_nil <| n_then <| W_true rfl ?_
     refine W_seq <| W_region <| RP_sg 3 [.p a13, .p a1, .p (.int .i64 ((i : Nat) : Int))] [(0, a1), (1, a2), (6, .int .i64 ((i : Nat) : Int)), (7, .int .i64 ((j : Nat) : Int)), (64, a13), (65, a1), (66, .int .i64 ((i : Nat) : Int))] trivial ?_
     refine RP_q rfl (v := .pointer (some ⟨(sp ba), so ba + i * 5, none⟩)) (ev_indexI idxEnt rfl rfl (ha.some_ (by rw [entCells_len]; omega)) (by omega)) ?_
     let a17 : Value := .agg #[.string ((A.getD i Ent.zero).key), .int .i64 ((A.getD i Ent.zero).c), .int .i64 ((A.getD i Ent.zero).n), .string ((A.getD i Ent.zero).val), .bool ((A.getD i Ent.zero).dead), .string (⟨#[]⟩ : ByteArray), .int .i64 0, .int .i64 0, .string (⟨#[]⟩ : ByteArray), .bool false]
     refine RP_sg 2 [.l 61 (.pointer (some ⟨(sp ba), so ba + i * 5, none⟩)) (.agg #[.string ((A.getD i Ent.zero).key), .int .i64 ((A.getD i Ent.zero).c), .int .i64 ((A.getD i Ent.zero).n), .string ((A.getD i Ent.zero).val), .bool ((A.getD i Ent.zero).dead)]), .p a17] [(0, a1), (1, a2), (6, .int .i64 ((i : Nat) : Int)), (7, .int .i64 ((j : Nat) : Int)), (64, a13), (69, a17)] ⟨InS.loadN agg_61 (ha.ext0 st15.ext) (entCells_at (getD_some (by omega))) rfl (by decide), trivial⟩ ?_
     refine RP_e rfl (ef_new (t := 116) (cs := [.string ((A.getD i Ent.zero).key), .int .i64 ((A.getD i Ent.zero).c), .int .i64 ((A.getD i Ent.zero).n), .string ((A.getD i Ent.zero).val), .bool ((A.getD i Ent.zero).dead), .string (⟨#[]⟩ : ByteArray), .int .i64 0, .int .i64 0, .string (⟨#[]⟩ : ByteArray), .bool false]) (fun g => .slice (some ⟨g, 0, none⟩) 1 1) st15 rfl rfl (fun _ => by kernel_rfl)) ?_
     rintro _ w18 ⟨g21, rfl, hg21, hg21', st19, hx20⟩
     replace hac := hac.ext hx20 (by simp)
     refine RP_e rfl (ef_appendI appPair (st19.sub (M' := []) [] (List.sublist_cons_self _ _)) hac rfl rfl (InS.of_blk (st19.get 0 rfl)) rfl rfl (by simp only [maxLen]; omega) (by omega) (by simp)) ?_
     rintro _ w22 ⟨v3, rfl, hac, st23, hx24⟩
     obtain ⟨d3, f3, rfl⟩ := ownsRow.form' hac.own
     let a25 : Value := .slice d3 (pre.length + 1) f3
     refine RP_sg 1 [.p a25] [(0, a1), (1, a2), (5, a25), (6, .int .i64 ((i : Nat) : Int)), (7, .int .i64 ((j : Nat) : Int))] trivial ?_
     refine RP_nil <| n_then <| W_region <| RP_sg 2 [.p (.int .i64 ((i : Nat) : Int)), .p (.int .i64 (IntKind.i64.wrap (((i : Nat) : Int) + 1)))] [(0, a1), (1, a2), (5, a25), (7, .int .i64 ((j : Nat) : Int)), (73, .int .i64 (IntKind.i64.wrap (((i : Nat) : Int) + 1)))] trivial ?_
     refine RP_at (m' := [(0, a1), (1, a2), (5, a25), (7, .int .i64 ((j : Nat) : Int)), (73, .int .i64 (((i + 1) : Nat) : Int))]) (by rw [inc_i (m := A.length) (by omega) (by omega)]) ?_
     refine RP_sg 1 [.p (.int .i64 (((i + 1) : Nat) : Int))] [(0, a1), (1, a2), (5, a25), (6, .int .i64 (((i + 1) : Nat) : Int)), (7, .int .i64 ((j : Nat) : Int))] trivial ?_
     refine RP_nil <| n_block <| n_block ?_
     have hstep : pairsL (A.drop i) (B.drop j) = ((A.getD i Ent.zero), Ent.zero) :: pairsL (A.drop (i + 1)) (B.drop j) := pairs_x (by omega) (.inl (by omega)) hjl
     have hln : (pre ++ [((A.getD i Ent.zero), Ent.zero)]).length = pre.length + 1 := by simp
     exact ⟨_, by omega, (i + 1), j, (pre ++ [((A.getD i Ent.zero), Ent.zero)]), d3, f3, rfl, by rw [hln], st23.sub0, by rw [hln, pairCells_snoc]; exact hac, by omega, by omega, by rw [← hpre, hstep, List.append_assoc]; rfl⟩
    ·
     try have c45_16p := ne_of_beq_false c45_16
     refine RS_at (m' := [(0, a1), (1, a2), (5, a13), (6, .int .i64 ((i : Nat) : Int)), (7, .int .i64 ((j : Nat) : Int)), (45, .bool false)]) (by rw [c45_16]) ?_
     refine RS_sg 5 [.p (.int .i64 ((i : Nat) : Int)), .p a1, .p (.int .i64 ((A.length : Nat) : Int)), .p (.bool (decide (((i : Nat) : Int) < ((A.length : Nat) : Int)))), .p (.bool (decide (((i : Nat) : Int) < ((A.length : Nat) : Int))))] [(0, a1), (1, a2), (5, a13), (6, .int .i64 ((i : Nat) : Int)), (7, .int .i64 ((j : Nat) : Int)), (45, .bool false), (50, .bool (decide (((i : Nat) : Int) < ((A.length : Nat) : Int))))] (⟨ha.ext0 st15.ext, hb.ext0 st15.ext⟩) (fun _ hS => trivial) ?_
     refine RS_at (m' := [(0, a1), (1, a2), (5, a13), (6, .int .i64 ((i : Nat) : Int)), (7, .int .i64 ((j : Nat) : Int)), (45, .bool false), (50, .bool true)]) (by rw [c18_14]) ?_
     refine RS_sg 2 [.p a1, .p (.int .i64 ((i : Nat) : Int))] [(0, a1), (1, a2), (5, a13), (6, .int .i64 ((i : Nat) : Int)), (7, .int .i64 ((j : Nat) : Int)), (45, .bool false), (50, .bool true), (51, a1), (52, .int .i64 ((i : Nat) : Int))] (⟨ha.ext0 st15.ext, hb.ext0 st15.ext⟩) (fun _ hS => trivial) ?_
     refine RS_gq rfl rfl rfl (⟨ha.ext0 st15.ext, hb.ext0 st15.ext⟩) (v := .pointer (some ⟨(sp ba), so ba + i * 5, none⟩)) (fun _ _ => ev_indexI idxEnt rfl rfl (ha.some_ (by rw [entCells_len]; omega)) (by omega)) ?_
     refine RS_sg 4 [.p (.pointer (some ⟨(sp ba), so ba + i * 5, none⟩)), .l 9 (.pointer (some ⟨(sp ba), so ba + i * 5, none⟩)) (.string ((A.getD i Ent.zero).key)), .p a2, .p (.int .i64 ((j : Nat) : Int))] [(0, a1), (1, a2), (5, a13), (6, .int .i64 ((i : Nat) : Int)), (7, .int .i64 ((j : Nat) : Int)), (45, .bool false), (50, .bool true), (55, .string ((A.getD i Ent.zero).key)), (56, a2), (57, .int .i64 ((j : Nat) : Int))] (⟨ha.ext0 st15.ext, hb.ext0 st15.ext⟩) (fun _ hS => ⟨(InS.load1 nagg_9 (hS.1) (entCells_0 (getD_some (by omega)) rfl)), trivial⟩) ?_
     refine RS_gq rfl rfl rfl (⟨ha.ext0 st15.ext, hb.ext0 st15.ext⟩) (v := .pointer (some ⟨(sp bb), so bb + j * 5, none⟩)) (fun _ _ => ev_indexI idxEnt rfl rfl (hb.some_ (by rw [entCells_len]; omega)) (by omega)) ?_
     refine RS_sg 6 [.p (.pointer (some ⟨(sp bb), so bb + j * 5, none⟩)), .l 9 (.pointer (some ⟨(sp bb), so bb + j * 5, none⟩)) (.string ((B.getD j Ent.zero).key)), .p (.bool (Op.bytesLess ((A.getD i Ent.zero).key).toList ((B.getD j Ent.zero).key).toList)), .p (.bool (Op.bytesLess ((A.getD i Ent.zero).key).toList ((B.getD j Ent.zero).key).toList)), .p (.bool (Op.bytesLess ((A.getD i Ent.zero).key).toList ((B.getD j Ent.zero).key).toList)), .p (.bool (Op.bytesLess ((A.getD i Ent.zero).key).toList ((B.getD j Ent.zero).key).toList))] [(0, a1), (1, a2), (5, a13), (6, .int .i64 ((i : Nat) : Int)), (7, .int .i64 ((j : Nat) : Int)), (40, .bool (Op.bytesLess ((A.getD i Ent.zero).key).toList ((B.getD j Ent.zero).key).toList))] (⟨ha.ext0 st15.ext, hb.ext0 st15.ext⟩) (fun _ hS => ⟨(InS.load1 nagg_9 (hS.2) (entCells_0 (getD_some (by omega)) rfl)), trivial⟩) ?_
     refine RS_nil <| n_then <| W_cond rfl (fun c40_26 => ?_) (fun c40_26 => ?_)
     ·
      refine W_seq <| W_region <| RP_sg 3 [.p a13, .p a1, .p (.int .i64 ((i : Nat) : Int))] [(0, a1), (1, a2), (6, .int .i64 ((i : Nat) : Int)), (7, .int .i64 ((j : Nat) : Int)), (64, a13), (65, a1), (66, .int .i64 ((i : Nat) : Int))] trivial ?_
      refine RP_q rfl (v := .pointer (some ⟨(sp ba), so ba + i * 5, none⟩)) (ev_indexI idxEnt rfl rfl (ha.some_ (by rw [entCells_len]; omega)) (by omega)) ?_
      let a27 : Value := .agg #[.string ((A.getD i Ent.zero).key), .int .i64 ((A.getD i Ent.zero).c), .int .i64 ((A.getD i Ent.zero).n), .string ((A.getD i Ent.zero).val), .bool ((A.getD i Ent.zero).dead), .string (⟨#[]⟩ : ByteArray), .int .i64 0, .int .i64 0, .string (⟨#[]⟩ : ByteArray), .bool false]
      refine RP_sg 2 [.l 61 (.pointer (some ⟨(sp ba), so ba + i * 5, none⟩)) (.agg #[.string ((A.getD i Ent.zero).key), .int .i64 ((A.getD i Ent.zero).c), .int .i64 ((A.getD i Ent.zero).n), .string ((A.getD i Ent.zero).val), .bool ((A.getD i Ent.zero).dead)]), .p a27] [(0, a1), (1, a2), (6, .int .i64 ((i : Nat) : Int)), (7, .int .i64 ((j : Nat) : Int)), (64, a13), (69, a27)] ⟨InS.loadN agg_61 (ha.ext0 st15.ext) (entCells_at (getD_some (by omega))) rfl (by decide), trivial⟩ ?_
      refine RP_e rfl (ef_new (t := 116) (cs := [.string ((A.getD i Ent.zero).key), .int .i64 ((A.getD i Ent.zero).c), .int .i64 ((A.getD i Ent.zero).n), .string ((A.getD i Ent.zero).val), .bool ((A.getD i Ent.zero).dead), .string (⟨#[]⟩ : ByteArray), .int .i64 0, .int .i64 0, .string (⟨#[]⟩ : ByteArray), .bool false]) (fun g => .slice (some ⟨g, 0, none⟩) 1 1) st15 rfl rfl (fun _ => by kernel_rfl)) ?_
      rintro _ w28 ⟨g31, rfl, hg31, hg31', st29, hx30⟩
      replace hac := hac.ext hx30 (by simp)
      refine RP_e rfl (ef_appendI appPair (st29.sub (M' := []) [] (List.sublist_cons_self _ _)) hac rfl rfl (InS.of_blk (st29.get 0 rfl)) rfl rfl (by simp only [maxLen]; omega) (by omega) (by simp)) ?_
      rintro _ w32 ⟨v3, rfl, hac, st33, hx34⟩
      obtain ⟨d3, f3, rfl⟩ := ownsRow.form' hac.own
      let a35 : Value := .slice d3 (pre.length + 1) f3
      refine RP_sg 1 [.p a35] [(0, a1), (1, a2), (5, a35), (6, .int .i64 ((i : Nat) : Int)), (7, .int .i64 ((j : Nat) : Int))] trivial ?_
      refine RP_nil <| n_then <| W_region <| RP_sg 2 [.p (.int .i64 ((i : Nat) : Int)), .p (.int .i64 (IntKind.i64.wrap (((i : Nat) : Int) + 1)))] [(0, a1), (1, a2), (5, a35), (7, .int .i64 ((j : Nat) : Int)), (73, .int .i64 (IntKind.i64.wrap (((i : Nat) : Int) + 1)))] trivial ?_
      refine RP_at (m' := [(0, a1), (1, a2), (5, a35), (7, .int .i64 ((j : Nat) : Int)), (73, .int .i64 (((i + 1) : Nat) : Int))]) (by rw [inc_i (m := A.length) (by omega) (by omega)]) ?_
      refine RP_sg 1 [.p (.int .i64 (((i + 1) : Nat) : Int))] [(0, a1), (1, a2), (5, a35), (6, .int .i64 (((i + 1) : Nat) : Int)), (7, .int .i64 ((j : Nat) : Int))] trivial ?_
      refine RP_nil <| n_block <| n_block ?_
      have hstep : pairsL (A.drop i) (B.drop j) = ((A.getD i Ent.zero), Ent.zero) :: pairsL (A.drop (i + 1)) (B.drop j) := pairs_x (by omega) (.inr ⟨by omega, c40_26⟩) hjl
      have hln : (pre ++ [((A.getD i Ent.zero), Ent.zero)]).length = pre.length + 1 := by simp
      exact ⟨_, by omega, (i + 1), j, (pre ++ [((A.getD i Ent.zero), Ent.zero)]), d3, f3, rfl, by rw [hln], st33.sub0, by rw [hln, pairCells_snoc]; exact hac, by omega, by omega, by rw [← hpre, hstep, List.append_assoc]; rfl⟩
     ·
      refine W_seq <| W_regionS ⟨(fun w' => InS w' ba (entCells A) ∧ InS w' bb (entCells B)), (fun _ => True)⟩ (.cons 1 0 (.cons 1 1 (.cons 1 2 (.cons 1 3 (.cons 1 4 (.cons 1 5 (.cons 1 6 (.cons 1 7 (.cons 1 8 (.cons 1 9 (.cons 1 10 (.cons 1 11 (.cons 1 12 (.cons 1 13 (.cons 1 14 (.cons 1 15 (.cons 1 16 (.cons 1 17 .nil)))))))))))))))))) 18 (by kernel_rfl) (by kernel_rfl) ?_
      have st36 := st15.drew
      replace hac := hac.drew
      refine RS_sg 5 [.p (.int .i64 ((i : Nat) : Int)), .p a1, .p (.int .i64 ((A.length : Nat) : Int)), .p (.bool (((i : Nat) : Int) == ((A.length : Nat) : Int))), .p (.bool (((i : Nat) : Int) == ((A.length : Nat) : Int)))] [(0, a1), (1, a2), (5, a13), (6, .int .i64 ((i : Nat) : Int)), (7, .int .i64 ((j : Nat) : Int)), (79, .bool (((i : Nat) : Int) == ((A.length : Nat) : Int)))] (⟨ha.ext0 st36.ext, hb.ext0 st36.ext⟩) (fun _ hS => trivial) ?_
      rcases Bool.eq_false_or_eq_true (((i : Nat) : Int) == ((A.length : Nat) : Int)) with c79_37 | c79_37
      ·
       try have c79_37p := eq_of_beq c79_37
       refine RS_at (m' := [(0, a1), (1, a2), (5, a13), (6, .int .i64 ((i : Nat) : Int)), (7, .int .i64 ((j : Nat) : Int)), (79, .bool true)]) (by rw [c79_37]) ?_
       refine RS_sg 13 [.no, .no, .no, .no, .no, .no, .no, .no, .no, .no, .no, .p (.bool true), .p (.bool true)] [(0, a1), (1, a2), (5, a13), (6, .int .i64 ((i : Nat) : Int)), (7, .int .i64 ((j : Nat) : Int)), (74, .bool true)] (⟨ha.ext0 st36.ext, hb.ext0 st36.ext⟩) (fun _ hS => trivial) ?_
       refine RS_nil <| n_then <| W_true rfl ?_
       refine W_seq <| W_region <| RP_sg 3 [.p a13, .p a2, .p (.int .i64 ((j : Nat) : Int))] [(0, a1), (1, a2), (6, .int .i64 ((i : Nat) : Int)), (7, .int .i64 ((j : Nat) : Int)), (92, a13), (93, a2), (94, .int .i64 ((j : Nat) : Int))] trivial ?_
       refine RP_q rfl (v := .pointer (some ⟨(sp bb), so bb + j * 5, none⟩)) (ev_indexI idxEnt rfl rfl (hb.some_ (by rw [entCells_len]; omega)) (by omega)) ?_
       let a38 : Value := .agg #[.string (⟨#[]⟩ : ByteArray), .int .i64 0, .int .i64 0, .string (⟨#[]⟩ : ByteArray), .bool false, .string ((B.getD j Ent.zero).key), .int .i64 ((B.getD j Ent.zero).c), .int .i64 ((B.getD j Ent.zero).n), .string ((B.getD j Ent.zero).val), .bool ((B.getD j Ent.zero).dead)]
       refine RP_sg 2 [.l 61 (.pointer (some ⟨(sp bb), so bb + j * 5, none⟩)) (.agg #[.string ((B.getD j Ent.zero).key), .int .i64 ((B.getD j Ent.zero).c), .int .i64 ((B.getD j Ent.zero).n), .string ((B.getD j Ent.zero).val), .bool ((B.getD j Ent.zero).dead)]), .p a38] [(0, a1), (1, a2), (6, .int .i64 ((i : Nat) : Int)), (7, .int .i64 ((j : Nat) : Int)), (92, a13), (97, a38)] ⟨InS.loadN agg_61 (hb.ext0 st36.ext) (entCells_at (getD_some (by omega))) rfl (by decide), trivial⟩ ?_
       refine RP_e rfl (ef_new (t := 116) (cs := [.string (⟨#[]⟩ : ByteArray), .int .i64 0, .int .i64 0, .string (⟨#[]⟩ : ByteArray), .bool false, .string ((B.getD j Ent.zero).key), .int .i64 ((B.getD j Ent.zero).c), .int .i64 ((B.getD j Ent.zero).n), .string ((B.getD j Ent.zero).val), .bool ((B.getD j Ent.zero).dead)]) (fun g => .slice (some ⟨g, 0, none⟩) 1 1) st36 rfl rfl (fun _ => by kernel_rfl)) ?_
       rintro _ w39 ⟨g42, rfl, hg42, hg42', st40, hx41⟩
       replace hac := hac.ext hx41 (by simp)
       refine RP_e rfl (ef_appendI appPair (st40.sub (M' := []) [] (List.sublist_cons_self _ _)) hac rfl rfl (InS.of_blk (st40.get 0 rfl)) rfl rfl (by simp only [maxLen]; omega) (by omega) (by simp)) ?_
       rintro _ w43 ⟨v3, rfl, hac, st44, hx45⟩
       obtain ⟨d3, f3, rfl⟩ := ownsRow.form' hac.own
       let a46 : Value := .slice d3 (pre.length + 1) f3
       refine RP_sg 1 [.p a46] [(0, a1), (1, a2), (5, a46), (6, .int .i64 ((i : Nat) : Int)), (7, .int .i64 ((j : Nat) : Int))] trivial ?_
       refine RP_nil <| n_then <| W_region <| RP_sg 2 [.p (.int .i64 ((j : Nat) : Int)), .p (.int .i64 (IntKind.i64.wrap (((j : Nat) : Int) + 1)))] [(0, a1), (1, a2), (5, a46), (6, .int .i64 ((i : Nat) : Int)), (101, .int .i64 (IntKind.i64.wrap (((j : Nat) : Int) + 1)))] trivial ?_
       refine RP_at (m' := [(0, a1), (1, a2), (5, a46), (6, .int .i64 ((i : Nat) : Int)), (101, .int .i64 (((j + 1) : Nat) : Int))]) (by rw [inc_i (m := B.length) (by omega) (by omega)]) ?_
       refine RP_sg 1 [.p (.int .i64 (((j + 1) : Nat) : Int))] [(0, a1), (1, a2), (5, a46), (6, .int .i64 ((i : Nat) : Int)), (7, .int .i64 (((j + 1) : Nat) : Int))] trivial ?_
       refine RP_nil <| n_block <| n_block ?_
       have hstep : pairsL (A.drop i) (B.drop j) = (Ent.zero, (B.getD j Ent.zero)) :: pairsL (A.drop i) (B.drop (j + 1)) := pairs_y (by omega) (.inl (by omega))
       have hln : (pre ++ [(Ent.zero, (B.getD j Ent.zero))]).length = pre.length + 1 := by simp
       exact ⟨_, by omega, i, (j + 1), (pre ++ [(Ent.zero, (B.getD j Ent.zero))]), d3, f3, rfl, by rw [hln], st44.sub0, by rw [hln, pairCells_snoc]; exact hac, by omega, by omega, by rw [← hpre, hstep, List.append_assoc]; rfl⟩
      ·
       try have c79_37p := ne_of_beq_false c79_37
       refine RS_at (m' := [(0, a1), (1, a2), (5, a13), (6, .int .i64 ((i : Nat) : Int)), (7, .int .i64 ((j : Nat) : Int)), (79, .bool false)]) (by rw [c79_37]) ?_
       refine RS_sg 2 [.p a2, .p (.int .i64 ((j : Nat) : Int))] [(0, a1), (1, a2), (5, a13), (6, .int .i64 ((i : Nat) : Int)), (7, .int .i64 ((j : Nat) : Int)), (79, .bool false), (80, a2), (81, .int .i64 ((j : Nat) : Int))] (⟨ha.ext0 st36.ext, hb.ext0 st36.ext⟩) (fun _ hS => trivial) ?_
       refine RS_gq rfl rfl rfl (⟨ha.ext0 st36.ext, hb.ext0 st36.ext⟩) (v := .pointer (some ⟨(sp bb), so bb + j * 5, none⟩)) (fun _ _ => ev_indexI idxEnt rfl rfl (hb.some_ (by rw [entCells_len]; omega)) (by omega)) ?_
       refine RS_sg 4 [.p (.pointer (some ⟨(sp bb), so bb + j * 5, none⟩)), .l 9 (.pointer (some ⟨(sp bb), so bb + j * 5, none⟩)) (.string ((B.getD j Ent.zero).key)), .p a1, .p (.int .i64 ((i : Nat) : Int))] [(0, a1), (1, a2), (5, a13), (6, .int .i64 ((i : Nat) : Int)), (7, .int .i64 ((j : Nat) : Int)), (79, .bool false), (84, .string ((B.getD j Ent.zero).key)), (85, a1), (86, .int .i64 ((i : Nat) : Int))] (⟨ha.ext0 st36.ext, hb.ext0 st36.ext⟩) (fun _ hS => ⟨(InS.load1 nagg_9 (hS.2) (entCells_0 (getD_some (by omega)) rfl)), trivial⟩) ?_
       refine RS_gq rfl rfl rfl (⟨ha.ext0 st36.ext, hb.ext0 st36.ext⟩) (v := .pointer (some ⟨(sp ba), so ba + i * 5, none⟩)) (fun _ _ => ev_indexI idxEnt rfl rfl (ha.some_ (by rw [entCells_len]; omega)) (by omega)) ?_
       refine RS_sg 5 [.p (.pointer (some ⟨(sp ba), so ba + i * 5, none⟩)), .l 9 (.pointer (some ⟨(sp ba), so ba + i * 5, none⟩)) (.string ((A.getD i Ent.zero).key)), .p (.bool (Op.bytesLess ((B.getD j Ent.zero).key).toList ((A.getD i Ent.zero).key).toList)), .p (.bool (Op.bytesLess ((B.getD j Ent.zero).key).toList ((A.getD i Ent.zero).key).toList)), .p (.bool (Op.bytesLess ((B.getD j Ent.zero).key).toList ((A.getD i Ent.zero).key).toList))] [(0, a1), (1, a2), (5, a13), (6, .int .i64 ((i : Nat) : Int)), (7, .int .i64 ((j : Nat) : Int)), (74, .bool (Op.bytesLess ((B.getD j Ent.zero).key).toList ((A.getD i Ent.zero).key).toList))] (⟨ha.ext0 st36.ext, hb.ext0 st36.ext⟩) (fun _ hS => ⟨(InS.load1 nagg_9 (hS.1) (entCells_0 (getD_some (by omega)) rfl)), trivial⟩) ?_
       refine RS_nil <| n_then <| W_cond rfl (fun c74_47 => ?_) (fun c74_47 => ?_)
       ·
        refine W_seq <| W_region <| RP_sg 3 [.p a13, .p a2, .p (.int .i64 ((j : Nat) : Int))] [(0, a1), (1, a2), (6, .int .i64 ((i : Nat) : Int)), (7, .int .i64 ((j : Nat) : Int)), (92, a13), (93, a2), (94, .int .i64 ((j : Nat) : Int))] trivial ?_
        refine RP_q rfl (v := .pointer (some ⟨(sp bb), so bb + j * 5, none⟩)) (ev_indexI idxEnt rfl rfl (hb.some_ (by rw [entCells_len]; omega)) (by omega)) ?_
        let a48 : Value := .agg #[.string (⟨#[]⟩ : ByteArray), .int .i64 0, .int .i64 0, .string (⟨#[]⟩ : ByteArray), .bool false, .string ((B.getD j Ent.zero).key), .int .i64 ((B.getD j Ent.zero).c), .int .i64 ((B.getD j Ent.zero).n), .string ((B.getD j Ent.zero).val), .bool ((B.getD j Ent.zero).dead)]
        refine RP_sg 2 [.l 61 (.pointer (some ⟨(sp bb), so bb + j * 5, none⟩)) (.agg #[.string ((B.getD j Ent.zero).key), .int .i64 ((B.getD j Ent.zero).c), .int .i64 ((B.getD j Ent.zero).n), .string ((B.getD j Ent.zero).val), .bool ((B.getD j Ent.zero).dead)]), .p a48] [(0, a1), (1, a2), (6, .int .i64 ((i : Nat) : Int)), (7, .int .i64 ((j : Nat) : Int)), (92, a13), (97, a48)] ⟨InS.loadN agg_61 (hb.ext0 st36.ext) (entCells_at (getD_some (by omega))) rfl (by decide), trivial⟩ ?_
        refine RP_e rfl (ef_new (t := 116) (cs := [.string (⟨#[]⟩ : ByteArray), .int .i64 0, .int .i64 0, .string (⟨#[]⟩ : ByteArray), .bool false, .string ((B.getD j Ent.zero).key), .int .i64 ((B.getD j Ent.zero).c), .int .i64 ((B.getD j Ent.zero).n), .string ((B.getD j Ent.zero).val), .bool ((B.getD j Ent.zero).dead)]) (fun g => .slice (some ⟨g, 0, none⟩) 1 1) st36 rfl rfl (fun _ => by kernel_rfl)) ?_
        rintro _ w49 ⟨g52, rfl, hg52, hg52', st50, hx51⟩
        replace hac := hac.ext hx51 (by simp)
        refine RP_e rfl (ef_appendI appPair (st50.sub (M' := []) [] (List.sublist_cons_self _ _)) hac rfl rfl (InS.of_blk (st50.get 0 rfl)) rfl rfl (by simp only [maxLen]; omega) (by omega) (by simp)) ?_
        rintro _ w53 ⟨v3, rfl, hac, st54, hx55⟩
        obtain ⟨d3, f3, rfl⟩ := ownsRow.form' hac.own
        let a56 : Value := .slice d3 (pre.length + 1) f3
        refine RP_sg 1 [.p a56] [(0, a1), (1, a2), (5, a56), (6, .int .i64 ((i : Nat) : Int)), (7, .int .i64 ((j : Nat) : Int))] trivial ?_
        refine RP_nil <| n_then <| W_region <| RP_sg 2 [.p (.int .i64 ((j : Nat) : Int)), .p (.int .i64 (IntKind.i64.wrap (((j : Nat) : Int) + 1)))] [(0, a1), (1, a2), (5, a56), (6, .int .i64 ((i : Nat) : Int)), (101, .int .i64 (IntKind.i64.wrap (((j : Nat) : Int) + 1)))] trivial ?_
        refine RP_at (m' := [(0, a1), (1, a2), (5, a56), (6, .int .i64 ((i : Nat) : Int)), (101, .int .i64 (((j + 1) : Nat) : Int))]) (by rw [inc_i (m := B.length) (by omega) (by omega)]) ?_
        refine RP_sg 1 [.p (.int .i64 (((j + 1) : Nat) : Int))] [(0, a1), (1, a2), (5, a56), (6, .int .i64 ((i : Nat) : Int)), (7, .int .i64 (((j + 1) : Nat) : Int))] trivial ?_
        refine RP_nil <| n_block <| n_block ?_
        have hstep : pairsL (A.drop i) (B.drop j) = (Ent.zero, (B.getD j Ent.zero)) :: pairsL (A.drop i) (B.drop (j + 1)) := pairs_y (by omega) (.inr ⟨by omega, c40_26, c74_47⟩)
        have hln : (pre ++ [(Ent.zero, (B.getD j Ent.zero))]).length = pre.length + 1 := by simp
        exact ⟨_, by omega, i, (j + 1), (pre ++ [(Ent.zero, (B.getD j Ent.zero))]), d3, f3, rfl, by rw [hln], st54.sub0, by rw [hln, pairCells_snoc]; exact hac, by omega, by omega, by rw [← hpre, hstep, List.append_assoc]; rfl⟩
       ·
        refine W_seq <| W_regionS ⟨(fun w' => InS w' ba (entCells A) ∧ InS w' bb (entCells B)), (fun _ => True)⟩ (.cons 1 0 (.cons 1 1 (.cons 1 2 (.cons 1 3 (.cons 1 4 (.cons 1 5 (.cons 1 6 (.cons 1 7 (.cons 1 8 (.cons 1 9 (.cons 2 10 (.cons 2 11 (.cons 0 12 .nil))))))))))))) 13 (by kernel_rfl) (by kernel_rfl) ?_
        have st57 := st36.drew
        replace hac := hac.drew
        refine RS_sg 3 [.p a13, .p a1, .p (.int .i64 ((i : Nat) : Int))] [(0, a1), (1, a2), (6, .int .i64 ((i : Nat) : Int)), (7, .int .i64 ((j : Nat) : Int)), (24, a13), (25, a1), (26, .int .i64 ((i : Nat) : Int))] (⟨ha.ext0 st57.ext, hb.ext0 st57.ext⟩) (fun _ hS => trivial) ?_
        refine RS_q rfl rfl (⟨ha.ext0 st57.ext, hb.ext0 st57.ext⟩) (v := .pointer (some ⟨(sp ba), so ba + i * 5, none⟩)) (fun _ _ => ev_indexI idxEnt rfl rfl (ha.some_ (by rw [entCells_len]; omega)) (by omega)) ?_
        let a58 : Value := .agg #[.string ((A.getD i Ent.zero).key), .int .i64 ((A.getD i Ent.zero).c), .int .i64 ((A.getD i Ent.zero).n), .string ((A.getD i Ent.zero).val), .bool ((A.getD i Ent.zero).dead)]
        refine RS_sg 3 [.l 61 (.pointer (some ⟨(sp ba), so ba + i * 5, none⟩)) a58, .p a2, .p (.int .i64 ((j : Nat) : Int))] [(0, a1), (1, a2), (6, .int .i64 ((i : Nat) : Int)), (7, .int .i64 ((j : Nat) : Int)), (24, a13), (28, a58), (29, a2), (30, .int .i64 ((j : Nat) : Int))] (⟨ha.ext0 st57.ext, hb.ext0 st57.ext⟩) (fun _ hS => ⟨(InS.loadN agg_61 (hS.1) (entCells_at (getD_some (by omega))) rfl (by decide)), trivial⟩) ?_
        refine RS_q rfl rfl (⟨ha.ext0 st57.ext, hb.ext0 st57.ext⟩) (v := .pointer (some ⟨(sp bb), so bb + j * 5, none⟩)) (fun _ _ => ev_indexI idxEnt rfl rfl (hb.some_ (by rw [entCells_len]; omega)) (by omega)) ?_
        let a59 : Value := .agg #[.string ((A.getD i Ent.zero).key), .int .i64 ((A.getD i Ent.zero).c), .int .i64 ((A.getD i Ent.zero).n), .string ((A.getD i Ent.zero).val), .bool ((A.getD i Ent.zero).dead), .string ((B.getD j Ent.zero).key), .int .i64 ((B.getD j Ent.zero).c), .int .i64 ((B.getD j Ent.zero).n), .string ((B.getD j Ent.zero).val), .bool ((B.getD j Ent.zero).dead)]
        refine RS_sg 2 [.l 61 (.pointer (some ⟨(sp bb), so bb + j * 5, none⟩)) (.agg #[.string ((B.getD j Ent.zero).key), .int .i64 ((B.getD j Ent.zero).c), .int .i64 ((B.getD j Ent.zero).n), .string ((B.getD j Ent.zero).val), .bool ((B.getD j Ent.zero).dead)]), .p a59] [(0, a1), (1, a2), (6, .int .i64 ((i : Nat) : Int)), (7, .int .i64 ((j : Nat) : Int)), (24, a13), (33, a59)] (⟨ha.ext0 st57.ext, hb.ext0 st57.ext⟩) (fun _ hS => ⟨(InS.loadN agg_61 (hS.2) (entCells_at (getD_some (by omega))) rfl (by decide)), trivial⟩) ?_
        refine RS_e rfl rfl (ef_new (t := 116) (cs := [.string ((A.getD i Ent.zero).key), .int .i64 ((A.getD i Ent.zero).c), .int .i64 ((A.getD i Ent.zero).n), .string ((A.getD i Ent.zero).val), .bool ((A.getD i Ent.zero).dead), .string ((B.getD j Ent.zero).key), .int .i64 ((B.getD j Ent.zero).c), .int .i64 ((B.getD j Ent.zero).n), .string ((B.getD j Ent.zero).val), .bool ((B.getD j Ent.zero).dead)]) (fun g => .slice (some ⟨g, 0, none⟩) 1 1) st57 rfl rfl (fun _ => by kernel_rfl)) ?_
        rintro _ w60 ⟨g63, rfl, hg63, hg63', st61, hx62⟩
        replace hac := hac.ext hx62 (by simp)
        refine ⟨⟨ha.ext0 st61.ext, hb.ext0 st61.ext⟩, ?_⟩
        refine RS_e rfl rfl (ef_appendI appPair (st61.sub (M' := []) [] (List.sublist_cons_self _ _)) hac rfl rfl (InS.of_blk (st61.get 0 rfl)) rfl rfl (by simp only [maxLen]; omega) (by omega) (by simp)) ?_
        rintro _ w64 ⟨v3, rfl, hac, st65, hx66⟩
        obtain ⟨d3, f3, rfl⟩ := ownsRow.form' hac.own
        refine ⟨⟨ha.ext0 st65.ext, hb.ext0 st65.ext⟩, ?_⟩
        let a67 : Value := .slice d3 (pre.length + 1) f3
        refine RS_sgP 1 [.p a67] [(0, a1), (1, a2), (5, a67), (6, .int .i64 ((i : Nat) : Int)), (7, .int .i64 ((j : Nat) : Int))] (fun _ => trivial) ?_
        refine RS_nil <| n_then <| W_seq <| W_region <| RP_sg 2 [.p (.int .i64 ((i : Nat) : Int)), .p (.int .i64 (IntKind.i64.wrap (((i : Nat) : Int) + 1)))] [(0, a1), (1, a2), (5, a67), (7, .int .i64 ((j : Nat) : Int)), (37, .int .i64 (IntKind.i64.wrap (((i : Nat) : Int) + 1)))] trivial ?_
        refine RP_at (m' := [(0, a1), (1, a2), (5, a67), (7, .int .i64 ((j : Nat) : Int)), (37, .int .i64 (((i + 1) : Nat) : Int))]) (by rw [inc_i (m := A.length) (by omega) (by omega)]) ?_
        refine RP_sg 1 [.p (.int .i64 (((i + 1) : Nat) : Int))] [(0, a1), (1, a2), (5, a67), (6, .int .i64 (((i + 1) : Nat) : Int)), (7, .int .i64 ((j : Nat) : Int))] trivial ?_
        refine RP_nil <| n_then <| W_region <| RP_sg 2 [.p (.int .i64 ((j : Nat) : Int)), .p (.int .i64 (IntKind.i64.wrap (((j : Nat) : Int) + 1)))] [(0, a1), (1, a2), (5, a67), (6, .int .i64 (((i + 1) : Nat) : Int)), (39, .int .i64 (IntKind.i64.wrap (((j : Nat) : Int) + 1)))] trivial ?_
        refine RP_at (m' := [(0, a1), (1, a2), (5, a67), (6, .int .i64 (((i + 1) : Nat) : Int)), (39, .int .i64 (((j + 1) : Nat) : Int))]) (by rw [inc_i (m := B.length) (by omega) (by omega)]) ?_
        refine RP_sg 1 [.p (.int .i64 (((j + 1) : Nat) : Int))] [(0, a1), (1, a2), (5, a67), (6, .int .i64 (((i + 1) : Nat) : Int)), (7, .int .i64 (((j + 1) : Nat) : Int))] trivial ?_
        refine RP_nil <| n_block <| n_block ?_
        have hstep : pairsL (A.drop i) (B.drop j) = ((A.getD i Ent.zero), (B.getD j Ent.zero)) :: pairsL (A.drop (i + 1)) (B.drop (j + 1)) := pairs_xy (by omega) (by omega) c40_26 c74_47
        have hln : (pre ++ [((A.getD i Ent.zero), (B.getD j Ent.zero))]).length = pre.length + 1 := by simp
        exact ⟨_, by omega, (i + 1), (j + 1), (pre ++ [((A.getD i Ent.zero), (B.getD j Ent.zero))]), d3, f3, rfl, by rw [hln], st65.sub0, by rw [hln, pairCells_snoc]; exact hac, by omega, by omega, by rw [← hpre, hstep, List.append_assoc]; rfl⟩
   ·
    have c18_14p := of_decide_eq_false c18_14
    refine RP_at (m' := [(0, a1), (1, a2), (5, a13), (6, .int .i64 ((i : Nat) : Int)), (7, .int .i64 ((j : Nat) : Int)), (18, .bool false)]) (by rw [c18_14]) ?_
    refine RP_sg 5 [.p (.int .i64 ((j : Nat) : Int)), .p a2, .p (.int .i64 ((B.length : Nat) : Int)), .p (.bool (decide (((j : Nat) : Int) < ((B.length : Nat) : Int)))), .p (.bool (decide (((j : Nat) : Int) < ((B.length : Nat) : Int))))] [(0, a1), (1, a2), (5, a13), (6, .int .i64 ((i : Nat) : Int)), (7, .int .i64 ((j : Nat) : Int)), (23, .bool (decide (((j : Nat) : Int) < ((B.length : Nat) : Int))))] trivial ?_
    refine RP_nil <| n_then <| W_cond rfl (fun c23_68 => ?_) (fun c23_68 => ?_)
    ·
     have c23_68p := of_decide_eq_true c23_68
     refine W_skip <| n_then <| W_block <| W_block <| W_seq <| W_regionS ⟨(fun _ => True), (fun _ => True)⟩ (.cons 1 0 (.cons 1 1 (.cons 1 2 (.cons 1 3 (.cons 1 4 (.cons 1 5 (.cons 1 6 (.cons 1 7 (.cons 1 8 (.cons 1 9 (.cons 1 10 (.cons 1 11 (.cons 1 12 (.cons 1 13 (.cons 1 14 (.cons 1 15 (.cons 1 16 (.cons 1 17 (.cons 1 18 (.cons 1 19 (.cons 1 20 (.cons 1 21 (.cons 1 22 (.cons 1 23 .nil)))))))))))))))))))))))) 24 (by kernel_rfl) (by kernel_rfl) ?_
     have st69 := st11.drew
     replace hac := hac.drew
     refine RS_sg 5 [.p (.int .i64 ((j : Nat) : Int)), .p a2, .p (.int .i64 ((B.length : Nat) : Int)), .p (.bool (((j : Nat) : Int) == ((B.length : Nat) : Int))), .p (.bool (((j : Nat) : Int) == ((B.length : Nat) : Int)))] [(0, a1), (1, a2), (5, a13), (6, .int .i64 ((i : Nat) : Int)), (7, .int .i64 ((j : Nat) : Int)), (45, .bool (((j : Nat) : Int) == ((B.length : Nat) : Int)))] trivial (fun _ hS => trivial) ?_
     rcases Bool.eq_false_or_eq_true (((j : Nat) : Int) == ((B.length : Nat) : Int)) with c45_70 | c45_70
     ·
      try have c45_70p := eq_of_beq c45_70
      refine RS_at (m' := [(0, a1), (1, a2), (5, a13), (6, .int .i64 ((i : Nat) : Int)), (7, .int .i64 ((j : Nat) : Int)), (45, .bool true)]) (by rw [c45_70]) ?_
      refine RS_sg 19 [.no, .no, .no, .no, .no, .no, .no, .no, .no, .no, .no, .no, .no, .no, .no, .no, .no, .p (.bool true), .p (.bool true)] [(0, a1), (1, a2), (5, a13), (6, .int .i64 ((i : Nat) : Int)), (7, .int .i64 ((j : Nat) : Int)), (40, .bool true)] trivial (fun _ hS => trivial) ?_
      refine RS_nil <| n_then <| W_true rfl ?_
      refine W_seq <| W_region <| RP_sg 3 [.p a13, .p a1, .p (.int .i64 ((i : Nat) : Int))] [(0, a1), (1, a2), (6, .int .i64 ((i : Nat) : Int)), (7, .int .i64 ((j : Nat) : Int)), (64, a13), (65, a1), (66, .int .i64 ((i : Nat) : Int))] trivial ?_
      refine RP_q rfl (v := .pointer (some ⟨(sp ba), so ba + i * 5, none⟩)) (ev_indexI idxEnt rfl rfl (ha.some_ (by rw [entCells_len]; omega)) (by omega)) ?_
      let a71 : Value := .agg #[.string ((A.getD i Ent.zero).key), .int .i64 ((A.getD i Ent.zero).c), .int .i64 ((A.getD i Ent.zero).n), .string ((A.getD i Ent.zero).val), .bool ((A.getD i Ent.zero).dead), .string (⟨#[]⟩ : ByteArray), .int .i64 0, .int .i64 0, .string (⟨#[]⟩ : ByteArray), .bool false]
      refine RP_sg 2 [.l 61 (.pointer (some ⟨(sp ba), so ba + i * 5, none⟩)) (.agg #[.string ((A.getD i Ent.zero).key), .int .i64 ((A.getD i Ent.zero).c), .int .i64 ((A.getD i Ent.zero).n), .string ((A.getD i Ent.zero).val), .bool ((A.getD i Ent.zero).dead)]), .p a71] [(0, a1), (1, a2), (6, .int .i64 ((i : Nat) : Int)), (7, .int .i64 ((j : Nat) : Int)), (64, a13), (69, a71)] ⟨InS.loadN agg_61 (ha.ext0 st69.ext) (entCells_at (getD_some (by omega))) rfl (by decide), trivial⟩ ?_
      refine RP_e rfl (ef_new (t := 116) (cs := [.string ((A.getD i Ent.zero).key), .int .i64 ((A.getD i Ent.zero).c), .int .i64 ((A.getD i Ent.zero).n), .string ((A.getD i Ent.zero).val), .bool ((A.getD i Ent.zero).dead), .string (⟨#[]⟩ : ByteArray), .int .i64 0, .int .i64 0, .string (⟨#[]⟩ : ByteArray), .bool false]) (fun g => .slice (some ⟨g, 0, none⟩) 1 1) st69 rfl rfl (fun _ => by kernel_rfl)) ?_
      rintro _ w72 ⟨g75, rfl, hg75, hg75', st73, hx74⟩
      replace hac := hac.ext hx74 (by simp)
      refine RP_e rfl (ef_appendI appPair (st73.sub (M' := []) [] (List.sublist_cons_self _ _)) hac rfl rfl (InS.of_blk (st73.get 0 rfl)) rfl rfl (by simp only [maxLen]; omega) (by omega) (by simp)) ?_
      rintro _ w76 ⟨v3, rfl, hac, st77, hx78⟩
      obtain ⟨d3, f3, rfl⟩ := ownsRow.form' hac.own
      let a79 : Value := .slice d3 (pre.length + 1) f3
      refine RP_sg 1 [.p a79] [(0, a1), (1, a2), (5, a79), (6, .int .i64 ((i : Nat) : Int)), (7, .int .i64 ((j : Nat) : Int))] trivial ?_
      refine RP_nil <| n_then <| W_region <| RP_sg 2 [.p (.int .i64 ((i : Nat) : Int)), .p (.int .i64 (IntKind.i64.wrap (((i : Nat) : Int) + 1)))] [(0, a1), (1, a2), (5, a79), (7, .int .i64 ((j : Nat) : Int)), (73, .int .i64 (IntKind.i64.wrap (((i : Nat) : Int) + 1)))] trivial ?_
      refine RP_at (m' := [(0, a1), (1, a2), (5, a79), (7, .int .i64 ((j : Nat) : Int)), (73, .int .i64 (((i + 1) : Nat) : Int))]) (by rw [inc_i (m := A.length) (by omega) (by omega)]) ?_
      refine RP_sg 1 [.p (.int .i64 (((i + 1) : Nat) : Int))] [(0, a1), (1, a2), (5, a79), (6, .int .i64 (((i + 1) : Nat) : Int)), (7, .int .i64 ((j : Nat) : Int))] trivial ?_
      refine RP_nil <| n_block <| n_block ?_
      have hstep : pairsL (A.drop i) (B.drop j) = ((A.getD i Ent.zero), Ent.zero) :: pairsL (A.drop (i + 1)) (B.drop j) := pairs_x (by omega) (.inl (by omega)) hjl
      have hln : (pre ++ [((A.getD i Ent.zero), Ent.zero)]).length = pre.length + 1 := by simp
      exact ⟨_, by omega, (i + 1), j, (pre ++ [((A.getD i Ent.zero), Ent.zero)]), d3, f3, rfl, by rw [hln], st77.sub0, by rw [hln, pairCells_snoc]; exact hac, by omega, by omega, by rw [← hpre, hstep, List.append_assoc]; rfl⟩
     ·
      try have c45_70p := ne_of_beq_false c45_70
      refine RS_at (m' := [(0, a1), (1, a2), (5, a13), (6, .int .i64 ((i : Nat) : Int)), (7, .int .i64 ((j : Nat) : Int)), (45, .bool false)]) (by rw [c45_70]) ?_
      refine RS_sg 5 [.p (.int .i64 ((i : Nat) : Int)), .p a1, .p (.int .i64 ((A.length : Nat) : Int)), .p (.bool (decide (((i : Nat) : Int) < ((A.length : Nat) : Int)))), .p (.bool (decide (((i : Nat) : Int) < ((A.length : Nat) : Int))))] [(0, a1), (1, a2), (5, a13), (6, .int .i64 ((i : Nat) : Int)), (7, .int .i64 ((j : Nat) : Int)), (45, .bool false), (50, .bool (decide (((i : Nat) : Int) < ((A.length : Nat) : Int))))] trivial (fun _ hS => trivial) ?_
      refine RS_at (m' := [(0, a1), (1, a2), (5, a13), (6, .int .i64 ((i : Nat) : Int)), (7, .int .i64 ((j : Nat) : Int)), (45, .bool false), (50, .bool false)]) (by rw [c18_14]) ?_
      refine RS_sg 14 [.no, .no, .no, .no, .no, .no, .no, .no, .no, .no, .no, .p (.bool false), .p (.bool false), .p (.bool false)] [(0, a1), (1, a2), (5, a13), (6, .int .i64 ((i : Nat) : Int)), (7, .int .i64 ((j : Nat) : Int)), (40, .bool false)] trivial (fun _ hS => trivial) ?_
      refine RS_nil <| n_then <| W_false rfl ?_
      refine W_seq <| W_regionS ⟨(fun w' => InS w' ba (entCells A) ∧ InS w' bb (entCells B)), (fun _ => True)⟩ (.cons 1 0 (.cons 1 1 (.cons 1 2 (.cons 1 3 (.cons 1 4 (.cons 1 5 (.cons 1 6 (.cons 1 7 (.cons 1 8 (.cons 1 9 (.cons 1 10 (.cons 1 11 (.cons 1 12 (.cons 1 13 (.cons 1 14 (.cons 1 15 (.cons 1 16 (.cons 1 17 .nil)))))))))))))))))) 18 (by kernel_rfl) (by kernel_rfl) ?_
      have st80 := st69.drew
      replace hac := hac.drew
      refine RS_sg 5 [.p (.int .i64 ((i : Nat) : Int)), .p a1, .p (.int .i64 ((A.length : Nat) : Int)), .p (.bool (((i : Nat) : Int) == ((A.length : Nat) : Int))), .p (.bool (((i : Nat) : Int) == ((A.length : Nat) : Int)))] [(0, a1), (1, a2), (5, a13), (6, .int .i64 ((i : Nat) : Int)), (7, .int .i64 ((j : Nat) : Int)), (79, .bool (((i : Nat) : Int) == ((A.length : Nat) : Int)))] (⟨ha.ext0 st80.ext, hb.ext0 st80.ext⟩) (fun _ hS => trivial) ?_
      rcases Bool.eq_false_or_eq_true (((i : Nat) : Int) == ((A.length : Nat) : Int)) with c79_81 | c79_81
      ·
       try have c79_81p := eq_of_beq c79_81
       refine RS_at (m' := [(0, a1), (1, a2), (5, a13), (6, .int .i64 ((i : Nat) : Int)), (7, .int .i64 ((j : Nat) : Int)), (79, .bool true)]) (by rw [c79_81]) ?_
       refine RS_sg 13 [.no, .no, .no, .no, .no, .no, .no, .no, .no, .no, .no, .p (.bool true), .p (.bool true)] [(0, a1), (1, a2), (5, a13), (6, .int .i64 ((i : Nat) : Int)), (7, .int .i64 ((j : Nat) : Int)), (74, .bool true)] (⟨ha.ext0 st80.ext, hb.ext0 st80.ext⟩) (fun _ hS => trivial) ?_
       refine RS_nil <| n_then <| W_true rfl ?_
       refine W_seq <| W_region <| RP_sg 3 [.p a13, .p a2, .p (.int .i64 ((j : Nat) : Int))] [(0, a1), (1, a2), (6, .int .i64 ((i : Nat) : Int)), (7, .int .i64 ((j : Nat) : Int)), (92, a13), (93, a2), (94, .int .i64 ((j : Nat) : Int))] trivial ?_
       refine RP_q rfl (v := .pointer (some ⟨(sp bb), so bb + j * 5, none⟩)) (ev_indexI idxEnt rfl rfl (hb.some_ (by rw [entCells_len]; omega)) (by omega)) ?_
       let a82 : Value := .agg #[.string (⟨#[]⟩ : ByteArray), .int .i64 0, .int .i64 0, .string (⟨#[]⟩ : ByteArray), .bool false, .string ((B.getD j Ent.zero).key), .int .i64 ((B.getD j Ent.zero).c), .int .i64 ((B.getD j Ent.zero).n), .string ((B.getD j Ent.zero).val), .bool ((B.getD j Ent.zero).dead)]
       refine RP_sg 2 [.l 61 (.pointer (some ⟨(sp bb), so bb + j * 5, none⟩)) (.agg #[.string ((B.getD j Ent.zero).key), .int .i64 ((B.getD j Ent.zero).c), .int .i64 ((B.getD j Ent.zero).n), .string ((B.getD j Ent.zero).val), .bool ((B.getD j Ent.zero).dead)]), .p a82] [(0, a1), (1, a2), (6, .int .i64 ((i : Nat) : Int)), (7, .int .i64 ((j : Nat) : Int)), (92, a13), (97, a82)] ⟨InS.loadN agg_61 (hb.ext0 st80.ext) (entCells_at (getD_some (by omega))) rfl (by decide), trivial⟩ ?_
       refine RP_e rfl (ef_new (t := 116) (cs := [.string (⟨#[]⟩ : ByteArray), .int .i64 0, .int .i64 0, .string (⟨#[]⟩ : ByteArray), .bool false, .string ((B.getD j Ent.zero).key), .int .i64 ((B.getD j Ent.zero).c), .int .i64 ((B.getD j Ent.zero).n), .string ((B.getD j Ent.zero).val), .bool ((B.getD j Ent.zero).dead)]) (fun g => .slice (some ⟨g, 0, none⟩) 1 1) st80 rfl rfl (fun _ => by kernel_rfl)) ?_
       rintro _ w83 ⟨g86, rfl, hg86, hg86', st84, hx85⟩
       replace hac := hac.ext hx85 (by simp)
       refine RP_e rfl (ef_appendI appPair (st84.sub (M' := []) [] (List.sublist_cons_self _ _)) hac rfl rfl (InS.of_blk (st84.get 0 rfl)) rfl rfl (by simp only [maxLen]; omega) (by omega) (by simp)) ?_
       rintro _ w87 ⟨v3, rfl, hac, st88, hx89⟩
       obtain ⟨d3, f3, rfl⟩ := ownsRow.form' hac.own
       let a90 : Value := .slice d3 (pre.length + 1) f3
       refine RP_sg 1 [.p a90] [(0, a1), (1, a2), (5, a90), (6, .int .i64 ((i : Nat) : Int)), (7, .int .i64 ((j : Nat) : Int))] trivial ?_
       refine RP_nil <| n_then <| W_region <| RP_sg 2 [.p (.int .i64 ((j : Nat) : Int)), .p (.int .i64 (IntKind.i64.wrap (((j : Nat) : Int) + 1)))] [(0, a1), (1, a2), (5, a90), (6, .int .i64 ((i : Nat) : Int)), (101, .int .i64 (IntKind.i64.wrap (((j : Nat) : Int) + 1)))] trivial ?_
       refine RP_at (m' := [(0, a1), (1, a2), (5, a90), (6, .int .i64 ((i : Nat) : Int)), (101, .int .i64 (((j + 1) : Nat) : Int))]) (by rw [inc_i (m := B.length) (by omega) (by omega)]) ?_
       refine RP_sg 1 [.p (.int .i64 (((j + 1) : Nat) : Int))] [(0, a1), (1, a2), (5, a90), (6, .int .i64 ((i : Nat) : Int)), (7, .int .i64 (((j + 1) : Nat) : Int))] trivial ?_
       refine RP_nil <| n_block <| n_block ?_
       have hstep : pairsL (A.drop i) (B.drop j) = (Ent.zero, (B.getD j Ent.zero)) :: pairsL (A.drop i) (B.drop (j + 1)) := pairs_y (by omega) (.inl (by omega))
       have hln : (pre ++ [(Ent.zero, (B.getD j Ent.zero))]).length = pre.length + 1 := by simp
       exact ⟨_, by omega, i, (j + 1), (pre ++ [(Ent.zero, (B.getD j Ent.zero))]), d3, f3, rfl, by rw [hln], st88.sub0, by rw [hln, pairCells_snoc]; exact hac, by omega, by omega, by rw [← hpre, hstep, List.append_assoc]; rfl⟩
      ·
       try have c79_81p := ne_of_beq_false c79_81
       refine RS_at (m' := [(0, a1), (1, a2), (5, a13), (6, .int .i64 ((i : Nat) : Int)), (7, .int .i64 ((j : Nat) : Int)), (79, .bool false)]) (by rw [c79_81]) ?_
       refine RS_sg 2 [.p a2, .p (.int .i64 ((j : Nat) : Int))] [(0, a1), (1, a2), (5, a13), (6, .int .i64 ((i : Nat) : Int)), (7, .int .i64 ((j : Nat) : Int)), (79, .bool false), (80, a2), (81, .int .i64 ((j : Nat) : Int))] (⟨ha.ext0 st80.ext, hb.ext0 st80.ext⟩) (fun _ hS => trivial) ?_
       refine RS_gq rfl rfl rfl (⟨ha.ext0 st80.ext, hb.ext0 st80.ext⟩) (v := .pointer (some ⟨(sp bb), so bb + j * 5, none⟩)) (fun _ _ => ev_indexI idxEnt rfl rfl (hb.some_ (by rw [entCells_len]; omega)) (by omega)) ?_
       refine RS_sg 4 [.p (.pointer (some ⟨(sp bb), so bb + j * 5, none⟩)), .l 9 (.pointer (some ⟨(sp bb), so bb + j * 5, none⟩)) (.string ((B.getD j Ent.zero).key)), .p a1, .p (.int .i64 ((i : Nat) : Int))] [(0, a1), (1, a2), (5, a13), (6, .int .i64 ((i : Nat) : Int)), (7, .int .i64 ((j : Nat) : Int)), (79, .bool false), (84, .string ((B.getD j Ent.zero).key)), (85, a1), (86, .int .i64 ((i : Nat) : Int))] (⟨ha.ext0 st80.ext, hb.ext0 st80.ext⟩) (fun _ hS => ⟨(InS.load1 nagg_9 (hS.2) (entCells_0 (getD_some (by omega)) rfl)), trivial⟩) ?_
       refine RS_gq rfl rfl rfl (⟨ha.ext0 st80.ext, hb.ext0 st80.ext⟩) (v := .pointer (some ⟨(sp ba), so ba + i * 5, none⟩)) (fun _ _ => ev_indexI idxEnt rfl rfl (ha.some_ (by rw [entCells_len]; omega)) (by omega)) ?_
       refine RS_sg 5 [.p (.pointer (some ⟨(sp ba), so ba + i * 5, none⟩)), .l 9 (.pointer (some ⟨(sp ba), so ba + i * 5, none⟩)) (.string ((A.getD i Ent.zero).key)), .p (.bool (Op.bytesLess ((B.getD j Ent.zero).key).toList ((A.getD i Ent.zero).key).toList)), .p (.bool (Op.bytesLess ((B.getD j Ent.zero).key).toList ((A.getD i Ent.zero).key).toList)), .p (.bool (Op.bytesLess ((B.getD j Ent.zero).key).toList ((A.getD i Ent.zero).key).toList))] [(0, a1), (1, a2), (5, a13), (6, .int .i64 ((i : Nat) : Int)), (7, .int .i64 ((j : Nat) : Int)), (74, .bool (Op.bytesLess ((B.getD j Ent.zero).key).toList ((A.getD i Ent.zero).key).toList))] (⟨ha.ext0 st80.ext, hb.ext0 st80.ext⟩) (fun _ hS => ⟨(InS.load1 nagg_9 (hS.1) (entCells_0 (getD_some (by omega)) rfl)), trivial⟩) ?_
       refine RS_nil <| n_then <| W_cond rfl (fun c74_91 => ?_) (fun c74_91 => ?_)
       ·
        refine W_seq <| W_region <| RP_sg 3 [.p a13, .p a2, .p (.int .i64 ((j : Nat) : Int))] [(0, a1), (1, a2), (6, .int .i64 ((i : Nat) : Int)), (7, .int .i64 ((j : Nat) : Int)), (92, a13), (93, a2), (94, .int .i64 ((j : Nat) : Int))] trivial ?_
        refine RP_q rfl (v := .pointer (some ⟨(sp bb), so bb + j * 5, none⟩)) (ev_indexI idxEnt rfl rfl (hb.some_ (by rw [entCells_len]; omega)) (by omega)) ?_
        let a92 : Value := .agg #[.string (⟨#[]⟩ : ByteArray), .int .i64 0, .int .i64 0, .string (⟨#[]⟩ : ByteArray), .bool false, .string ((B.getD j Ent.zero).key), .int .i64 ((B.getD j Ent.zero).c), .int .i64 ((B.getD j Ent.zero).n), .string ((B.getD j Ent.zero).val), .bool ((B.getD j Ent.zero).dead)]
        refine RP_sg 2 [.l 61 (.pointer (some ⟨(sp bb), so bb + j * 5, none⟩)) (.agg #[.string ((B.getD j Ent.zero).key), .int .i64 ((B.getD j Ent.zero).c), .int .i64 ((B.getD j Ent.zero).n), .string ((B.getD j Ent.zero).val), .bool ((B.getD j Ent.zero).dead)]), .p a92] [(0, a1), (1, a2), (6, .int .i64 ((i : Nat) : Int)), (7, .int .i64 ((j : Nat) : Int)), (92, a13), (97, a92)] ⟨InS.loadN agg_61 (hb.ext0 st80.ext) (entCells_at (getD_some (by omega))) rfl (by decide), trivial⟩ ?_
        refine RP_e rfl (ef_new (t := 116) (cs := [.string (⟨#[]⟩ : ByteArray), .int .i64 0, .int .i64 0, .string (⟨#[]⟩ : ByteArray), .bool false, .string ((B.getD j Ent.zero).key), .int .i64 ((B.getD j Ent.zero).c), .int .i64 ((B.getD j Ent.zero).n), .string ((B.getD j Ent.zero).val), .bool ((B.getD j Ent.zero).dead)]) (fun g => .slice (some ⟨g, 0, none⟩) 1 1) st80 rfl rfl (fun _ => by kernel_rfl)) ?_
        rintro _ w93 ⟨g96, rfl, hg96, hg96', st94, hx95⟩
        replace hac := hac.ext hx95 (by simp)
        refine RP_e rfl (ef_appendI appPair (st94.sub (M' := []) [] (List.sublist_cons_self _ _)) hac rfl rfl (InS.of_blk (st94.get 0 rfl)) rfl rfl (by simp only [maxLen]; omega) (by omega) (by simp)) ?_
        rintro _ w97 ⟨v3, rfl, hac, st98, hx99⟩
        obtain ⟨d3, f3, rfl⟩ := ownsRow.form' hac.own
        let a100 : Value := .slice d3 (pre.length + 1) f3
        refine RP_sg 1 [.p a100] [(0, a1), (1, a2), (5, a100), (6, .int .i64 ((i : Nat) : Int)), (7, .int .i64 ((j : Nat) : Int))] trivial ?_
        refine RP_nil <| n_then <| W_region <| RP_sg 2 [.p (.int .i64 ((j : Nat) : Int)), .p (.int .i64 (IntKind.i64.wrap (((j : Nat) : Int) + 1)))] [(0, a1), (1, a2), (5, a100), (6, .int .i64 ((i : Nat) : Int)), (101, .int .i64 (IntKind.i64.wrap (((j : Nat) : Int) + 1)))] trivial ?_
        refine RP_at (m' := [(0, a1), (1, a2), (5, a100), (6, .int .i64 ((i : Nat) : Int)), (101, .int .i64 (((j + 1) : Nat) : Int))]) (by rw [inc_i (m := B.length) (by omega) (by omega)]) ?_
        refine RP_sg 1 [.p (.int .i64 (((j + 1) : Nat) : Int))] [(0, a1), (1, a2), (5, a100), (6, .int .i64 ((i : Nat) : Int)), (7, .int .i64 (((j + 1) : Nat) : Int))] trivial ?_
        refine RP_nil <| n_block <| n_block ?_
        have hstep : pairsL (A.drop i) (B.drop j) = (Ent.zero, (B.getD j Ent.zero)) :: pairsL (A.drop i) (B.drop (j + 1)) := pairs_y (by omega) (.inr ⟨by omega, (by exfalso; omega), c74_91⟩)
        have hln : (pre ++ [(Ent.zero, (B.getD j Ent.zero))]).length = pre.length + 1 := by simp
        exact ⟨_, by omega, i, (j + 1), (pre ++ [(Ent.zero, (B.getD j Ent.zero))]), d3, f3, rfl, by rw [hln], st98.sub0, by rw [hln, pairCells_snoc]; exact hac, by omega, by omega, by rw [← hpre, hstep, List.append_assoc]; rfl⟩
       ·
        refine W_seq <| W_regionS ⟨(fun w' => InS w' ba (entCells A) ∧ InS w' bb (entCells B)), (fun _ => True)⟩ (.cons 1 0 (.cons 1 1 (.cons 1 2 (.cons 1 3 (.cons 1 4 (.cons 1 5 (.cons 1 6 (.cons 1 7 (.cons 1 8 (.cons 1 9 (.cons 2 10 (.cons 2 11 (.cons 0 12 .nil))))))))))))) 13 (by kernel_rfl) (by kernel_rfl) ?_
        have st101 := st80.drew
        replace hac := hac.drew
        refine RS_sg 3 [.p a13, .p a1, .p (.int .i64 ((i : Nat) : Int))] [(0, a1), (1, a2), (6, .int .i64 ((i : Nat) : Int)), (7, .int .i64 ((j : Nat) : Int)), (24, a13), (25, a1), (26, .int .i64 ((i : Nat) : Int))] (⟨ha.ext0 st101.ext, hb.ext0 st101.ext⟩) (fun _ hS => trivial) ?_
        refine RS_q rfl rfl (⟨ha.ext0 st101.ext, hb.ext0 st101.ext⟩) (v := .pointer (some ⟨(sp ba), so ba + i * 5, none⟩)) (fun _ _ => ev_indexI idxEnt rfl rfl (ha.some_ (by rw [entCells_len]; omega)) (by omega)) ?_
        let a102 : Value := .agg #[.string ((A.getD i Ent.zero).key), .int .i64 ((A.getD i Ent.zero).c), .int .i64 ((A.getD i Ent.zero).n), .string ((A.getD i Ent.zero).val), .bool ((A.getD i Ent.zero).dead)]
        refine RS_sg 3 [.l 61 (.pointer (some ⟨(sp ba), so ba + i * 5, none⟩)) a102, .p a2, .p (.int .i64 ((j : Nat) : Int))] [(0, a1), (1, a2), (6, .int .i64 ((i : Nat) : Int)), (7, .int .i64 ((j : Nat) : Int)), (24, a13), (28, a102), (29, a2), (30, .int .i64 ((j : Nat) : Int))] (⟨ha.ext0 st101.ext, hb.ext0 st101.ext⟩) (fun _ hS => ⟨(InS.loadN agg_61 (hS.1) (entCells_at (getD_some (by omega))) rfl (by decide)), trivial⟩) ?_
        refine RS_q rfl rfl (⟨ha.ext0 st101.ext, hb.ext0 st101.ext⟩) (v := .pointer (some ⟨(sp bb), so bb + j * 5, none⟩)) (fun _ _ => ev_indexI idxEnt rfl rfl (hb.some_ (by rw [entCells_len]; omega)) (by omega)) ?_
        let a103 : Value := .agg #[.string ((A.getD i Ent.zero).key), .int .i64 ((A.getD i Ent.zero).c), .int .i64 ((A.getD i Ent.zero).n), .string ((A.getD i Ent.zero).val), .bool ((A.getD i Ent.zero).dead), .string ((B.getD j Ent.zero).key), .int .i64 ((B.getD j Ent.zero).c), .int .i64 ((B.getD j Ent.zero).n), .string ((B.getD j Ent.zero).val), .bool ((B.getD j Ent.zero).dead)]
        refine RS_sg 2 [.l 61 (.pointer (some ⟨(sp bb), so bb + j * 5, none⟩)) (.agg #[.string ((B.getD j Ent.zero).key), .int .i64 ((B.getD j Ent.zero).c), .int .i64 ((B.getD j Ent.zero).n), .string ((B.getD j Ent.zero).val), .bool ((B.getD j Ent.zero).dead)]), .p a103] [(0, a1), (1, a2), (6, .int .i64 ((i : Nat) : Int)), (7, .int .i64 ((j : Nat) : Int)), (24, a13), (33, a103)] (⟨ha.ext0 st101.ext, hb.ext0 st101.ext⟩) (fun _ hS => ⟨(InS.loadN agg_61 (hS.2) (entCells_at (getD_some (by omega))) rfl (by decide)), trivial⟩) ?_
        refine RS_e rfl rfl (ef_new (t := 116) (cs := [.string ((A.getD i Ent.zero).key), .int .i64 ((A.getD i Ent.zero).c), .int .i64 ((A.getD i Ent.zero).n), .string ((A.getD i Ent.zero).val), .bool ((A.getD i Ent.zero).dead), .string ((B.getD j Ent.zero).key), .int .i64 ((B.getD j Ent.zero).c), .int .i64 ((B.getD j Ent.zero).n), .string ((B.getD j Ent.zero).val), .bool ((B.getD j Ent.zero).dead)]) (fun g => .slice (some ⟨g, 0, none⟩) 1 1) st101 rfl rfl (fun _ => by kernel_rfl)) ?_
        rintro _ w104 ⟨g107, rfl, hg107, hg107', st105, hx106⟩
        replace hac := hac.ext hx106 (by simp)
        refine ⟨⟨ha.ext0 st105.ext, hb.ext0 st105.ext⟩, ?_⟩
        refine RS_e rfl rfl (ef_appendI appPair (st105.sub (M' := []) [] (List.sublist_cons_self _ _)) hac rfl rfl (InS.of_blk (st105.get 0 rfl)) rfl rfl (by simp only [maxLen]; omega) (by omega) (by simp)) ?_
        rintro _ w108 ⟨v3, rfl, hac, st109, hx110⟩
        obtain ⟨d3, f3, rfl⟩ := ownsRow.form' hac.own
        refine ⟨⟨ha.ext0 st109.ext, hb.ext0 st109.ext⟩, ?_⟩
        let a111 : Value := .slice d3 (pre.length + 1) f3
        refine RS_sgP 1 [.p a111] [(0, a1), (1, a2), (5, a111), (6, .int .i64 ((i : Nat) : Int)), (7, .int .i64 ((j : Nat) : Int))] (fun _ => trivial) ?_
        refine RS_nil <| n_then <| W_seq <| W_region <| RP_sg 2 [.p (.int .i64 ((i : Nat) : Int)), .p (.int .i64 (IntKind.i64.wrap (((i : Nat) : Int) + 1)))] [(0, a1), (1, a2), (5, a111), (7, .int .i64 ((j : Nat) : Int)), (37, .int .i64 (IntKind.i64.wrap (((i : Nat) : Int) + 1)))] trivial ?_
        refine RP_at (m' := [(0, a1), (1, a2), (5, a111), (7, .int .i64 ((j : Nat) : Int)), (37, .int .i64 (((i + 1) : Nat) : Int))]) (by rw [inc_i (m := A.length) (by omega) (by omega)]) ?_
        refine RP_sg 1 [.p (.int .i64 (((i + 1) : Nat) : Int))] [(0, a1), (1, a2), (5, a111), (6, .int .i64 (((i + 1) : Nat) : Int)), (7, .int .i64 ((j : Nat) : Int))] trivial ?_
        refine RP_nil <| n_then <| W_region <| RP_sg 2 [.p (.int .i64 ((j : Nat) : Int)), .p (.int .i64 (IntKind.i64.wrap (((j : Nat) : Int) + 1)))] [(0, a1), (1, a2), (5, a111), (6, .int .i64 (((i + 1) : Nat) : Int)), (39, .int .i64 (IntKind.i64.wrap (((j : Nat) : Int) + 1)))] trivial ?_
        refine RP_at (m' := [(0, a1), (1, a2), (5, a111), (6, .int .i64 (((i + 1) : Nat) : Int)), (39, .int .i64 (((j + 1) : Nat) : Int))]) (by rw [inc_i (m := B.length) (by omega) (by omega)]) ?_
        refine RP_sg 1 [.p (.int .i64 (((j + 1) : Nat) : Int))] [(0, a1), (1, a2), (5, a111), (6, .int .i64 (((i + 1) : Nat) : Int)), (7, .int .i64 (((j + 1) : Nat) : Int))] trivial ?_
        refine RP_nil <| n_block <| n_block ?_
        have hstep : pairsL (A.drop i) (B.drop j) = ((A.getD i Ent.zero), (B.getD j Ent.zero)) :: pairsL (A.drop (i + 1)) (B.drop (j + 1)) := pairs_xy (by omega) (by omega) (by exfalso; omega) c74_91
        have hln : (pre ++ [((A.getD i Ent.zero), (B.getD j Ent.zero))]).length = pre.length + 1 := by simp
        exact ⟨_, by omega, (i + 1), (j + 1), (pre ++ [((A.getD i Ent.zero), (B.getD j Ent.zero))]), d3, f3, rfl, by rw [hln], st109.sub0, by rw [hln, pairCells_snoc]; exact hac, by omega, by omega, by rw [← hpre, hstep, List.append_assoc]; rfl⟩
    ·
     have c23_68p := of_decide_eq_false c23_68
     refine W_exit ?_
     refine e_then <| e_loop <| e_here ?_
     refine n_then <| W_seq <| W_region <| RP_sg 2 [.p a13, .p a13] [(4, a13)] trivial ?_
     refine RP_nil <| n_then <| W_ret ?_
     have hfin : pre = pairsL A B := by rw [← hpre, show i = A.length by omega, show j = B.length by omega, List.drop_length, List.drop_length, pairsL_nil, List.append_nil]
     have hpr : pairsR A B = pre := by unfold pairsR; rw [c12_10, hfin]; rfl
     refine ret_of (P := Tryd.prog) (fn := Tryd.f53) (m := [(4, .slice d pre.length f)]) (w := w12) (res1 rfl (rv_tmp rfl)) ?_
     exact ⟨d, f, by rw [hpr], by rw [hpr]; exact hac, st11.ext⟩
end Go.Proofs.YtcopemgkjbaaeaaDoor
namespace Go.Proofs.YtcopemgkjbaaeaaDoor
set_option linter.all false
open Go.RowKit
theorem own_apart {w : World} {b1 b2 s1 s2 k1 k2 : Nat} {e1 e2 : TypeId} {v1 v2 : Value} {x1 x2 : List Value} (h1 : w.ownsRow b1 e1 s1 v1 k1 x1) (h2 : w.ownsRow b2 e2 s2 v2 k2 x2) (he : e1 ≠ e2) : ∀ g ∈ ownB v1, g ∉ ownB v2 := by
  intro g hg hm
  rcases h1.2 with ⟨rfl, _⟩ | ⟨g1, c1, u1, rfl, _, hh, _⟩
  · simp [ownB, Value.ownBlock] at hg
  · simp only [ownB, Value.ownBlock, Option.toList_some, List.mem_singleton] at hg
    subst hg
    rcases h2.2 with ⟨rfl, _⟩ | ⟨g2, c2, u2, rfl, _, hh2, _⟩
    · simp [ownB, Value.ownBlock] at hm
    · simp only [ownB, Value.ownBlock, Option.toList_some, List.mem_singleton] at hm
      subst hm
      rw [hh] at hh2
      injection hh2 with hh2
      injection hh2 with _ h3
      exact he h3
def rlackP (p : Ent × Ent) : Bool := !rnone p.1 && newer p.1 p.2
def rlackF (l : List (Ent × Ent)) : List Ent := (l.filter rlackP).map (·.1)
theorem rlackF_snoc (l : List (Ent × Ent)) (p : Ent × Ent) : rlackF (l ++ [p]) = rlackF l ++ cond (rlackP p) [p.1] [] := by
  unfold rlackF
  rw [List.filter_append, List.map_append]
  cases h : rlackP p <;> simp [h]
theorem rlackF_le (l : List (Ent × Ent)) : (rlackF l).length ≤ l.length := by
  unfold rlackF
  rw [List.length_map]; exact List.length_filter_le _ _
def maxP (p : Ent × Ent) : Ent := cond (rnone p.1) p.2 (best p.1 p.2)
def maxF (l : List (Ent × Ent)) : List Ent := l.map maxP
theorem tk_snoc {α : Type} {P : List α} {i : Nat} {p : α} (h : P[i]? = some p) : P.take (i + 1) = P.take i ++ [p] := by rw [List.take_succ, h]; rfl
theorem pairsR_le (A B : List Ent) : (pairsR A B).length ≤ A.length + B.length := by
  unfold pairsR
  cases chk2 A B != 0
  · exact pairsL_le _ A B
  · exact Nat.zero_le _
theorem ref09Lacks_cr {w : World} {ba bb : Option Addr} {ca cb : Nat} (A B : List Ent) (ha : InS w ba (entCells A)) (hb : InS w bb (entCells B)) (hA : A.length ≤ 10000) (hB : B.length ≤ 10000) :
    CR Tryd.prog 18 [.slice ba A.length ca, .slice bb B.length cb] w fun v w' => ∃ d f, v = .tuple #[.slice d (rlackF (pairsR A B)).length f, .int .i64 (chk2 A B)] ∧
      Acc w [] w' 61 5 (.slice d (rlackF (pairsR A B)).length f) (rlackF (pairsR A B)).length (entCells (rlackF (pairsR A B))) ∧ Ext [] w w' := by
  have st := St.init w []
  have hbd := pairsR_le A B
  refine CR_enter Tryd.func18 rfl Tryd.ntmps18 rfl ?_
  refine W_seq <| W_region ?_
  let a1 : Value := .slice ba A.length ca
  let a2 : Value := .slice bb B.length cb
  refine RP_sg 2 [.p (.slice none 0 0), .p (.int .i64 0)] [(0, a1), (1, a2)] trivial ?_
  refine RP_nil <| n_then <| W_seq <| W_region <| RP_sg 2 [.p a1, .p a2] [(0, a1), (1, a2), (10, a1), (11, a2)] trivial ?_
  refine RP_e rfl (ef_call (k := 52) (args := [a1, a2]) (ref09check2_cr A B (ha.ext0 st.ext) (hb.ext0 st.ext) (by omega) (by omega)) body_52 (by kernel_rfl)) ?_
  rintro _ w3 ⟨_, rfl, rfl, hx5⟩
  have st4 := st.call0 hx5
  refine RP_sg 1 [.p (.int .i64 (chk2 A B))] [(0, a1), (1, a2), (6, .int .i64 (chk2 A B))] trivial ?_
  refine RP_nil <| n_then <| W_seq <| W_seq <| W_region <| RP_sg 2 [.p (.int .i64 (chk2 A B)), .p (.bool ((chk2 A B) != 0))] [(0, a1), (1, a2), (6, .int .i64 (chk2 A B)), (14, .bool ((chk2 A B) != 0))] trivial ?_
  refine RP_nil <| n_then <| W_cond rfl (fun c14_6 => ?_) (fun c14_6 => ?_)
  ·
   refine W_seq <| W_region ?_
   let a7 : Value := .slice none 0 0
   refine RP_sg 3 [.p (.int .i64 (chk2 A B)), .p a7, .p (.int .i64 (chk2 A B))] [(4, a7), (5, .int .i64 (chk2 A B))] trivial ?_
   refine RP_nil <| n_then <| W_ret <| r_then ?_
   have hz : rlackF (pairsR A B) = [] := by unfold pairsR; rw [c14_6]; rfl
   refine ret_of (P := Tryd.prog) (fn := Tryd.f18) (m := [(4, .slice none 0 0), (5, .int .i64 (chk2 A B))]) (w := w3) (res2 rfl (rv_tmp rfl) (rv_tmp rfl)) ?_
   exact ⟨none, 0, by rw [hz]; rfl, by rw [hz]; exact Acc.nil _ _ _ _ _, st4.ext⟩
  ·
   refine W_skip <| n_then <| W_seq <| W_region <| RP_sg 2 [.p a1, .p a2] [(16, a1), (17, a2)] trivial ?_
   refine RP_e rfl (ef_call (k := 53) (args := [a1, a2]) (ref09Pairs_cr A B (ha.ext0 st4.ext) (hb.ext0 st4.ext) hA hB) body_53 (by kernel_rfl)) ?_
   rintro _ w8 ⟨_, rfl, d, f, rfl, hP, hx10⟩
   have st9 := st4.call0 hx10
   replace hP := Acc.since (w0 := w) hP st4.ext.size
   generalize hPP : pairsR A B = P at *
   let a11 : Value := .slice d P.length f
   refine RP_sg 1 [.p a11] [(7, a11)] trivial ?_
   refine RP_nil <| n_then <| W_seq <| W_region <| RP_e rfl (ef_new (t := 61) (cs := []) (fun g => .slice (some ⟨g, 0, none⟩) 0 0) st9 rfl rfl (fun _ => by kernel_rfl)) ?_
   rintro _ w12 ⟨g8, rfl, hg8, hg8', st13, hx14⟩
   replace hP := hP.ext hx14 (by simp)
   let a15 : Value := .slice (some ⟨g8, 0, none⟩) 0 0
   refine RP_sg 1 [.p a15] [(7, a11), (8, a15)] trivial ?_
   refine RP_nil <| n_then <| W_seq <| W_seq <| W_region <| RP_sg 1 [.p (.int .i64 0)] [(7, a11), (8, a15), (9, .int .i64 0)] trivial ?_
   refine RP_nil <| n_then <| W_block <| W_loop (fun k_ m_ w_ => ∃ (i : Nat) (b2 : Option Addr) (c2 : Nat), P.length - i = k_ ∧ m_ = [(7, a11), (8, .slice b2 ((rlackF (P.take i)).length) c2), (9, .int .i64 ((i : Nat) : Int))] ∧ St [] w w_ [] ∧ i ≤ P.length ∧ Acc w [] w_ 116 10 (.slice d P.length f) P.length (pairCells P) ∧ Acc w [] w_ 61 5 (.slice b2 (rlackF (P.take i)).length c2) (rlackF (P.take i)).length (entCells (rlackF (P.take i)))) ⟨0, _, _, rfl, rfl, st13.sub0, Nat.zero_le _, hP, Acc.of_new (size := 5) (j := 0) st13 0 rfl rfl (by decide) hg8⟩ ?_
   rintro _ _ w17 ⟨i, b2, c2, rfl, rfl, st16, hil, hP, hac⟩
   have hl9 := rlackF_le (P.take i)
   simp only [List.length_take] at hl9
   have hapart : ∀ q ∈ (([] : List (Nat × TypeId × List Value)).map (·.1)), q ∉ ownB (.slice b2 (rlackF (P.take i)).length c2) := by simp
   refine W_seq <| W_seq <| W_region ?_
   let a18 : Value := .slice b2 ((rlackF (P.take i)).length) c2
   refine RP_sg 4 [.p (.int .i64 ((i : Nat) : Int)), .p a11, .p (.int .i64 ((P.length : Nat) : Int)), .p (.bool (decide (((i : Nat) : Int) < ((P.length : Nat) : Int))))] [(7, a11), (8, a18), (9, .int .i64 ((i : Nat) : Int)), (23, .bool (decide (((i : Nat) : Int) < ((P.length : Nat) : Int))))] trivial ?_
   refine RP_nil <| n_then <| W_cond rfl (fun c23_19 => ?_) (fun c23_19 => ?_)
   ·
    have c23_19p := of_decide_eq_true c23_19
    refine W_skip <| n_then <| W_seq <| W_block <| W_seq <| W_regionS ⟨(fun w' => InS w' d (pairCells P)), (fun _ => True)⟩ (.cons 1 0 (.cons 1 1 (.cons 1 2 (.cons 1 3 (.cons 1 4 (.cons 2 5 (.cons 1 6 (.cons 1 7 (.cons 1 8 (.cons 1 9 (.cons 1 10 (.cons 1 11 (.cons 1 12 (.cons 1 13 (.cons 1 14 (.cons 1 15 (.cons 1 16 (.cons 1 17 (.cons 2 18 (.cons 1 19 .nil)))))))))))))))))))) 20 (by kernel_rfl) (by kernel_rfl) ?_
    have st20 := st16.drew
    replace hP := hP.drew
    replace hac := hac.drew
    refine RS_sg 2 [.p a11, .p (.int .i64 ((i : Nat) : Int))] [(7, a11), (8, a18), (9, .int .i64 ((i : Nat) : Int)), (26, a11), (27, .int .i64 ((i : Nat) : Int))] ((InS.of_own hP.own).ext0 (Ext.refl [] _)) (fun _ hS => trivial) ?_
    have hlt : i < P.length := by omega
    obtain ⟨p, hp⟩ : ∃ p, P[i]? = some p := ⟨P[i], by simp [hlt]⟩
    have hbs := (InS.of_own hP.own).some_ (by rw [pairCells_len]; omega)
    refine RS_q rfl rfl ((InS.of_own hP.own).ext0 (Ext.refl [] _)) (v := .pointer (some ⟨(sp d), so d + i * 10, none⟩)) (fun _ _ => ev_indexI idxPair rfl rfl hbs hlt) ?_
    let a21 : Value := .agg #[.string p.1.key, .int .i64 p.1.c, .int .i64 p.1.n, .string p.1.val, .bool p.1.dead]
    refine RS_sg 2 [.p (.pointer (some ⟨(sp d), so d + i * 10, none⟩)), .l 61 (.pointer (some ⟨(sp d), so d + i * 10, none⟩)) a21] [(7, a11), (8, a18), (9, .int .i64 ((i : Nat) : Int)), (30, a21)] ((InS.of_own hP.own).ext0 (Ext.refl [] _)) (fun _ hS => ⟨(InS.loadN agg_61 (hS) (pairCells_a hp) rfl (by decide)), trivial⟩) ?_
    refine RS_e rfl rfl (ef_call (k := 54) (args := [a21]) (ref09none_cr p.1 _) body_54 (by kernel_rfl)) ?_
    rintro _ w22 ⟨_, rfl, rfl, hx24⟩
    have st23 := st20.call0 hx24
    replace hP := hP.ext hx24 (by simp)
    replace hac := hac.ext hx24 (by simp)
    refine ⟨(InS.of_own hP.own).ext0 (Ext.refl [] _), ?_⟩
    refine RS_sg 2 [.p (.bool (!(rnone p.1))), .p (.bool (!(rnone p.1)))] [(7, a11), (8, a18), (9, .int .i64 ((i : Nat) : Int)), (33, .bool (!(rnone p.1)))] ((InS.of_own hP.own).ext0 (Ext.refl [] _)) (fun _ hS => trivial) ?_
    rcases Bool.eq_false_or_eq_true (!(rnone p.1)) with c33_25 | c33_25
    ·
     refine RS_at (m' := [(7, a11), (8, a18), (9, .int .i64 ((i : Nat) : Int)), (33, .bool true)]) (by rw [c33_25]) ?_
     refine RS_sg 2 [.p a11, .p (.int .i64 ((i : Nat) : Int))] [(7, a11), (8, a18), (9, .int .i64 ((i : Nat) : Int)), (33, .bool true), (34, a11), (35, .int .i64 ((i : Nat) : Int))] ((InS.of_own hP.own).ext0 (Ext.refl [] _)) (fun _ hS => trivial) ?_
     refine RS_gq rfl rfl rfl ((InS.of_own hP.own).ext0 (Ext.refl [] _)) (v := .pointer (some ⟨(sp d), so d + i * 10, none⟩)) (fun _ _ => ev_indexI idxPair rfl rfl hbs hlt) ?_
     refine RS_sg 4 [.p (.pointer (some ⟨(sp d), so d + i * 10, none⟩)), .l 61 (.pointer (some ⟨(sp d), so d + i * 10, none⟩)) a21, .p a11, .p (.int .i64 ((i : Nat) : Int))] [(7, a11), (8, a18), (9, .int .i64 ((i : Nat) : Int)), (33, .bool true), (38, a21), (39, a11), (40, .int .i64 ((i : Nat) : Int))] ((InS.of_own hP.own).ext0 (Ext.refl [] _)) (fun _ hS => ⟨(InS.loadN agg_61 (hS) (pairCells_a hp) rfl (by decide)), trivial⟩) ?_
     refine RS_gq rfl rfl rfl ((InS.of_own hP.own).ext0 (Ext.refl [] _)) (v := .pointer (some ⟨(sp d), so d + i * 10, none⟩)) (fun _ _ => ev_indexI idxPair rfl rfl hbs hlt) ?_
     let a26 : Value := .agg #[.string p.2.key, .int .i64 p.2.c, .int .i64 p.2.n, .string p.2.val, .bool p.2.dead]
     refine RS_sg 2 [.p (.pointer (some ⟨(sp d), so d + i * 10 + 5, none⟩)), .l 61 (.pointer (some ⟨(sp d), so d + i * 10 + 5, none⟩)) a26] [(7, a11), (8, a18), (9, .int .i64 ((i : Nat) : Int)), (33, .bool true), (38, a21), (43, a26)] ((InS.of_own hP.own).ext0 (Ext.refl [] _)) (fun _ hS => ⟨(InS.loadNf (o := i * 10) (k := 5) agg_61 (hS) (pairCells_b hp) rfl (by decide)), trivial⟩) ?_
     refine RS_ge rfl rfl rfl (ef_call (k := 55) (args := [a21, a26]) (ref03newer_cr p.1 p.2 _) body_55 (by kernel_rfl)) ?_
     rintro _ w27 ⟨_, rfl, rfl, hx29⟩
     have st28 := st23.call0 hx29
     replace hP := hP.ext hx29 (by simp)
     replace hac := hac.ext hx29 (by simp)
     refine ⟨(InS.of_own hP.own).ext0 (Ext.refl [] _), ?_⟩
     refine RS_sg 1 [.p (.bool (newer p.1 p.2))] [(7, a11), (8, a18), (9, .int .i64 ((i : Nat) : Int)), (45, .bool (newer p.1 p.2))] ((InS.of_own hP.own).ext0 (Ext.refl [] _)) (fun _ hS => trivial) ?_
     refine RS_nil <| n_then <| W_cond rfl (fun c45_30 => ?_) (fun c45_30 => ?_)
     ·
      refine W_region <| RP_sg 3 [.p a18, .p a11, .p (.int .i64 ((i : Nat) : Int))] [(7, a11), (9, .int .i64 ((i : Nat) : Int)), (46, a18), (47, a11), (48, .int .i64 ((i : Nat) : Int))] trivial ?_
      refine RP_q rfl (v := .pointer (some ⟨(sp d), so d + i * 10, none⟩)) (ev_indexI idxPair rfl rfl hbs hlt) ?_
      refine RP_sg 2 [.p (.pointer (some ⟨(sp d), so d + i * 10, none⟩)), .l 61 (.pointer (some ⟨(sp d), so d + i * 10, none⟩)) a21] [(7, a11), (9, .int .i64 ((i : Nat) : Int)), (46, a18), (51, a21)] ⟨InS.loadN agg_61 ((InS.of_own hP.own).ext0 (Ext.refl [] _)) (pairCells_a hp) rfl (by decide), trivial⟩ ?_
      refine RP_e rfl (ef_new (t := 61) (cs := [.string p.1.key, .int .i64 p.1.c, .int .i64 p.1.n, .string p.1.val, .bool p.1.dead]) (fun g => .slice (some ⟨g, 0, none⟩) 1 1) st28 rfl rfl (fun _ => by kernel_rfl)) ?_
      rintro _ w31 ⟨g34, rfl, hg34, hg34', st32, hx33⟩
      replace hP := hP.ext hx33 (by simp)
      replace hac := hac.ext hx33 (by simp)
      have hac0 := hac.own
      refine RP_e rfl (ef_appendI appEnt (st32.sub (M' := []) [] (List.sublist_cons_self _ _)) hac rfl rfl (InS.of_blk (st32.get 0 rfl)) rfl rfl (by simp only [maxLen]; omega) (by omega) (hapart)) ?_
      rintro _ w35 ⟨v3, rfl, hac, st36, hx37⟩
      replace hP := hP.ext hx37 (own_apart hP.own hac0 (by decide))
      obtain ⟨b3, c3, rfl⟩ := ownsRow.form' hac.own
      let a38 : Value := .slice b3 ((rlackF (P.take i)).length + 1) c3
      refine RP_sg 1 [.p a38] [(7, a11), (8, a38), (9, .int .i64 ((i : Nat) : Int))] trivial ?_
      refine RP_nil <| n_block <| n_then <| W_region <| RP_sg 3 [.p (.int .i64 ((i : Nat) : Int)), .p (.int .i64 (IntKind.i64.wrap (((i : Nat) : Int) + 1))), .p (.int .i64 (IntKind.i64.wrap (((i : Nat) : Int) + 1)))] [(7, a11), (8, a38), (9, .int .i64 (IntKind.i64.wrap (((i : Nat) : Int) + 1)))] trivial ?_
      refine RP_nil ?_
      have hlp : rlackP p = true := by unfold rlackP; (try rw [c33_25]); (try rw [c45_30]); rfl
      have hsn : rlackF (P.take (i + 1)) = (rlackF (P.take i)) ++ [p.1] := by rw [tk_snoc hp, rlackF_snoc, hlp]; simp
      have hln : ((rlackF (P.take i)) ++ [p.1]).length = (rlackF (P.take i)).length + 1 := by simp
      exact ⟨_, by omega, (i + 1), b3, c3, rfl, by rw [inc_w (n := i) (by omega), hsn, hln], st36.sub0, by omega, hP, by rw [hsn, hln, entCells_snoc]; exact hac⟩
     ·
      refine W_skip <| n_block <| n_then <| W_region <| RP_sg 3 [.p (.int .i64 ((i : Nat) : Int)), .p (.int .i64 (IntKind.i64.wrap (((i : Nat) : Int) + 1))), .p (.int .i64 (IntKind.i64.wrap (((i : Nat) : Int) + 1)))] [(7, a11), (8, a18), (9, .int .i64 (IntKind.i64.wrap (((i : Nat) : Int) + 1)))] trivial ?_
      refine RP_nil ?_
      have hlp : rlackP p = false := by unfold rlackP; (try rw [c33_25]); (try rw [c45_30]); rfl
      have hsn : rlackF (P.take (i + 1)) = (rlackF (P.take i)) := by rw [tk_snoc hp, rlackF_snoc, hlp]; simp
      exact ⟨_, by omega, (i + 1), b2, c2, rfl, by rw [inc_w (n := i) (by omega), hsn], st28.sub0, by omega, hP, by rw [hsn]; exact hac⟩
    ·
     refine RS_at (m' := [(7, a11), (8, a18), (9, .int .i64 ((i : Nat) : Int)), (33, .bool false)]) (by rw [c33_25]) ?_
     refine RS_sg 10 [.no, .no, .no, .no, .no, .no, .no, .no, .no, .no] [(7, a11), (8, a18), (9, .int .i64 ((i : Nat) : Int)), (33, .bool false), (38, undef), (43, undef)] ((InS.of_own hP.own).ext0 (Ext.refl [] _)) (fun _ hS => trivial) ?_
     refine RS_noe rfl (fun d h => by injection h with h; subst h; rfl) rfl (by decide) ((InS.of_own hP.own).ext0 (Ext.refl [] _)) ?_
     refine RS_sg 1 [.p (.bool false)] [(7, a11), (8, a18), (9, .int .i64 ((i : Nat) : Int)), (45, .bool false)] ((InS.of_own hP.own).ext0 (Ext.refl [] _)) (fun _ hS => trivial) ?_
     refine RS_nil <| n_then <| W_false rfl ?_
     refine W_skip <| n_block <| n_then <| W_region <| RP_sg 3 [.p (.int .i64 ((i : Nat) : Int)), .p (.int .i64 (IntKind.i64.wrap (((i : Nat) : Int) + 1))), .p (.int .i64 (IntKind.i64.wrap (((i : Nat) : Int) + 1)))] [(7, a11), (8, a18), (9, .int .i64 (IntKind.i64.wrap (((i : Nat) : Int) + 1)))] trivial ?_
     refine RP_nil ?_
     have hlp : rlackP p = false := by unfold rlackP; (try rw [c33_25]); rfl
     have hsn : rlackF (P.take (i + 1)) = (rlackF (P.take i)) := by rw [tk_snoc hp, rlackF_snoc, hlp]; simp
     exact ⟨_, by omega, (i + 1), b2, c2, rfl, by rw [inc_w (n := i) (by omega), hsn], st23.sub0, by omega, hP, by rw [hsn]; exact hac⟩
   ·
    have c23_19p := of_decide_eq_false c23_19
    refine W_exit ?_
    refine e_then <| e_loop <| e_here ?_
    refine n_then <| W_seq <| W_region <| RP_sg 3 [.p a18, .p a18, .p (.int .i64 0)] [(4, a18), (5, .int .i64 0)] trivial ?_
    refine RP_nil <| n_then <| W_ret ?_
    have hz : chk2 A B = 0 := by simpa using c14_6
    have hiL : i = P.length := by omega
    rw [hiL, List.take_length] at hac
    refine ret_of (P := Tryd.prog) (fn := Tryd.f18) (m := [(4, .slice b2 ((rlackF (P.take i)).length) c2), (5, .int .i64 0)]) (w := w17) (res2 rfl (rv_tmp rfl) (rv_tmp rfl)) ?_
    exact ⟨b2, c2, by rw [hz, hiL, List.take_length], hac, st16.ext⟩
theorem ref09Max_cr {w : World} {ba bb : Option Addr} {ca cb : Nat} (A B : List Ent) (ha : InS w ba (entCells A)) (hb : InS w bb (entCells B)) (hA : A.length ≤ 10000) (hB : B.length ≤ 10000) :
    CR Tryd.prog 21 [.slice ba A.length ca, .slice bb B.length cb] w fun v w' => ∃ d f, v = .tuple #[.slice d (maxF (pairsR A B)).length f, .int .i64 (chk2 A B)] ∧
      Acc w [] w' 61 5 (.slice d (maxF (pairsR A B)).length f) (maxF (pairsR A B)).length (entCells (maxF (pairsR A B))) ∧ Ext [] w w' := by
  have st := St.init w []
  have hbd := pairsR_le A B
  refine CR_enter Tryd.func21 rfl Tryd.ntmps21 rfl ?_
  refine W_seq <| W_region ?_
  let a1 : Value := .slice ba A.length ca
  let a2 : Value := .slice bb B.length cb
  refine RP_sg 2 [.p (.slice none 0 0), .p (.int .i64 0)] [(0, a1), (1, a2)] trivial ?_
  refine RP_nil <| n_then <| W_seq <| W_region <| RP_sg 2 [.p a1, .p a2] [(0, a1), (1, a2), (10, a1), (11, a2)] trivial ?_
  refine RP_e rfl (ef_call (k := 52) (args := [a1, a2]) (ref09check2_cr A B (ha.ext0 st.ext) (hb.ext0 st.ext) (by omega) (by omega)) body_52 (by kernel_rfl)) ?_
  rintro _ w3 ⟨_, rfl, rfl, hx5⟩
  have st4 := st.call0 hx5
  refine RP_sg 1 [.p (.int .i64 (chk2 A B))] [(0, a1), (1, a2), (6, .int .i64 (chk2 A B))] trivial ?_
  refine RP_nil <| n_then <| W_seq <| W_seq <| W_region <| RP_sg 2 [.p (.int .i64 (chk2 A B)), .p (.bool ((chk2 A B) != 0))] [(0, a1), (1, a2), (6, .int .i64 (chk2 A B)), (14, .bool ((chk2 A B) != 0))] trivial ?_
  refine RP_nil <| n_then <| W_cond rfl (fun c14_6 => ?_) (fun c14_6 => ?_)
  ·
   refine W_seq <| W_region ?_
   let a7 : Value := .slice none 0 0
   refine RP_sg 3 [.p (.int .i64 (chk2 A B)), .p a7, .p (.int .i64 (chk2 A B))] [(4, a7), (5, .int .i64 (chk2 A B))] trivial ?_
   refine RP_nil <| n_then <| W_ret <| r_then ?_
   have hz : maxF (pairsR A B) = [] := by unfold pairsR; rw [c14_6]; rfl
   refine ret_of (P := Tryd.prog) (fn := Tryd.f21) (m := [(4, .slice none 0 0), (5, .int .i64 (chk2 A B))]) (w := w3) (res2 rfl (rv_tmp rfl) (rv_tmp rfl)) ?_
   exact ⟨none, 0, by rw [hz]; rfl, by rw [hz]; exact Acc.nil _ _ _ _ _, st4.ext⟩
  ·
   refine W_skip <| n_then <| W_seq <| W_region <| RP_sg 2 [.p a1, .p a2] [(16, a1), (17, a2)] trivial ?_
   refine RP_e rfl (ef_call (k := 53) (args := [a1, a2]) (ref09Pairs_cr A B (ha.ext0 st4.ext) (hb.ext0 st4.ext) hA hB) body_53 (by kernel_rfl)) ?_
   rintro _ w8 ⟨_, rfl, d, f, rfl, hP, hx10⟩
   have st9 := st4.call0 hx10
   replace hP := Acc.since (w0 := w) hP st4.ext.size
   generalize hPP : pairsR A B = P at *
   let a11 : Value := .slice d P.length f
   refine RP_sg 1 [.p a11] [(7, a11)] trivial ?_
   refine RP_nil <| n_then <| W_seq <| W_region <| RP_e rfl (ef_new (t := 61) (cs := []) (fun g => .slice (some ⟨g, 0, none⟩) 0 0) st9 rfl rfl (fun _ => by kernel_rfl)) ?_
   rintro _ w12 ⟨g8, rfl, hg8, hg8', st13, hx14⟩
   replace hP := hP.ext hx14 (by simp)
   let a15 : Value := .slice (some ⟨g8, 0, none⟩) 0 0
   refine RP_sg 1 [.p a15] [(7, a11), (8, a15)] trivial ?_
   refine RP_nil <| n_then <| W_seq <| W_seq <| W_region <| RP_sg 1 [.p (.int .i64 0)] [(7, a11), (8, a15), (9, .int .i64 0)] trivial ?_
   refine RP_nil <| n_then <| W_block <| W_loop (fun k_ m_ w_ => ∃ (i : Nat) (b2 : Option Addr) (c2 : Nat), P.length - i = k_ ∧ m_ = [(7, a11), (8, .slice b2 ((maxF (P.take i)).length) c2), (9, .int .i64 ((i : Nat) : Int))] ∧ St [] w w_ [] ∧ i ≤ P.length ∧ Acc w [] w_ 116 10 (.slice d P.length f) P.length (pairCells P) ∧ Acc w [] w_ 61 5 (.slice b2 (maxF (P.take i)).length c2) (maxF (P.take i)).length (entCells (maxF (P.take i)))) ⟨0, _, _, rfl, rfl, st13.sub0, Nat.zero_le _, hP, Acc.of_new (size := 5) (j := 0) st13 0 rfl rfl (by decide) hg8⟩ ?_
   rintro _ _ w17 ⟨i, b2, c2, rfl, rfl, st16, hil, hP, hac⟩
   have hl9 : (maxF (P.take i)).length ≤ P.length := by unfold maxF; rw [List.length_map, List.length_take]; omega
   have hapart : ∀ q ∈ (([] : List (Nat × TypeId × List Value)).map (·.1)), q ∉ ownB (.slice b2 (maxF (P.take i)).length c2) := by simp
   refine W_seq <| W_seq <| W_region ?_
   let a18 : Value := .slice b2 ((maxF (P.take i)).length) c2
   refine RP_sg 4 [.p (.int .i64 ((i : Nat) : Int)), .p a11, .p (.int .i64 ((P.length : Nat) : Int)), .p (.bool (decide (((i : Nat) : Int) < ((P.length : Nat) : Int))))] [(7, a11), (8, a18), (9, .int .i64 ((i : Nat) : Int)), (23, .bool (decide (((i : Nat) : Int) < ((P.length : Nat) : Int))))] trivial ?_
   refine RP_nil <| n_then <| W_cond rfl (fun c23_19 => ?_) (fun c23_19 => ?_)
   ·
    have c23_19p := of_decide_eq_true c23_19
    refine W_skip <| n_then <| W_seq <| W_block <| W_seq <| W_region <| RP_sg 2 [.p a11, .p (.int .i64 ((i : Nat) : Int))] [(7, a11), (8, a18), (9, .int .i64 ((i : Nat) : Int)), (26, a11), (27, .int .i64 ((i : Nat) : Int))] trivial ?_
    have hlt : i < P.length := by omega
    obtain ⟨p, hp⟩ : ∃ p, P[i]? = some p := ⟨P[i], by simp [hlt]⟩
    have hbs := (InS.of_own hP.own).some_ (by rw [pairCells_len]; omega)
    refine RP_q rfl (v := .pointer (some ⟨(sp d), so d + i * 10, none⟩)) (ev_indexI idxPair rfl rfl hbs hlt) ?_
    let a20 : Value := .agg #[.string p.1.key, .int .i64 p.1.c, .int .i64 p.1.n, .string p.1.val, .bool p.1.dead]
    refine RP_sg 2 [.p (.pointer (some ⟨(sp d), so d + i * 10, none⟩)), .l 61 (.pointer (some ⟨(sp d), so d + i * 10, none⟩)) a20] [(7, a11), (8, a18), (9, .int .i64 ((i : Nat) : Int)), (30, a20)] ⟨InS.loadN agg_61 ((InS.of_own hP.own).ext0 (Ext.refl [] _)) (pairCells_a hp) rfl (by decide), trivial⟩ ?_
    refine RP_e rfl (ef_call (k := 54) (args := [a20]) (ref09none_cr p.1 _) body_54 (by kernel_rfl)) ?_
    rintro _ w21 ⟨_, rfl, rfl, hx23⟩
    have st22 := st16.call0 hx23
    replace hP := hP.ext hx23 (by simp)
    replace hac := hac.ext hx23 (by simp)
    refine RP_pk [(7, a11), (8, a18), (9, .int .i64 ((i : Nat) : Int)), (31, .bool (rnone p.1))] ?_
    refine RP_nil <| n_then <| W_cond rfl (fun c31_24 => ?_) (fun c31_24 => ?_)
    ·
     refine W_region <| RP_sg 3 [.p a18, .p a11, .p (.int .i64 ((i : Nat) : Int))] [(7, a11), (9, .int .i64 ((i : Nat) : Int)), (32, a18), (33, a11), (34, .int .i64 ((i : Nat) : Int))] trivial ?_
     refine RP_q rfl (v := .pointer (some ⟨(sp d), so d + i * 10, none⟩)) (ev_indexI idxPair rfl rfl hbs hlt) ?_
     let a25 : Value := .agg #[.string p.2.key, .int .i64 p.2.c, .int .i64 p.2.n, .string p.2.val, .bool p.2.dead]
     refine RP_sg 2 [.p (.pointer (some ⟨(sp d), so d + i * 10 + 5, none⟩)), .l 61 (.pointer (some ⟨(sp d), so d + i * 10 + 5, none⟩)) a25] [(7, a11), (9, .int .i64 ((i : Nat) : Int)), (32, a18), (37, a25)] ⟨InS.loadNf (o := i * 10) (k := 5) agg_61 ((InS.of_own hP.own).ext0 (Ext.refl [] _)) (pairCells_b hp) rfl (by decide), trivial⟩ ?_
     refine RP_e rfl (ef_new (t := 61) (cs := [.string p.2.key, .int .i64 p.2.c, .int .i64 p.2.n, .string p.2.val, .bool p.2.dead]) (fun g => .slice (some ⟨g, 0, none⟩) 1 1) st22 rfl rfl (fun _ => by kernel_rfl)) ?_
     rintro _ w26 ⟨g29, rfl, hg29, hg29', st27, hx28⟩
     replace hP := hP.ext hx28 (by simp)
     replace hac := hac.ext hx28 (by simp)
     have hac0 := hac.own
     refine RP_e rfl (ef_appendI appEnt (st27.sub (M' := []) [] (List.sublist_cons_self _ _)) hac rfl rfl (InS.of_blk (st27.get 0 rfl)) rfl rfl (by simp only [maxLen]; omega) (by omega) (hapart)) ?_
     rintro _ w30 ⟨v3, rfl, hac, st31, hx32⟩
     replace hP := hP.ext hx32 (own_apart hP.own hac0 (by decide))
     obtain ⟨b3, c3, rfl⟩ := ownsRow.form' hac.own
     let a33 : Value := .slice b3 ((maxF (P.take i)).length + 1) c3
     refine RP_sg 1 [.p a33] [(7, a11), (8, a33), (9, .int .i64 ((i : Nat) : Int))] trivial ?_
     refine RP_nil <| n_block <| n_then <| W_region <| RP_sg 3 [.p (.int .i64 ((i : Nat) : Int)), .p (.int .i64 (IntKind.i64.wrap (((i : Nat) : Int) + 1))), .p (.int .i64 (IntKind.i64.wrap (((i : Nat) : Int) + 1)))] [(7, a11), (8, a33), (9, .int .i64 (IntKind.i64.wrap (((i : Nat) : Int) + 1)))] trivial ?_
     refine RP_nil ?_
     have hlp : maxP p = p.2 := by unfold maxP; rw [c31_24]; rfl
     have hsn : maxF (P.take (i + 1)) = (maxF (P.take i)) ++ [p.2] := by rw [tk_snoc hp]; unfold maxF; rw [List.map_append, ← hlp]; rfl
     have hln : ((maxF (P.take i)) ++ [p.2]).length = (maxF (P.take i)).length + 1 := by simp
     exact ⟨_, by omega, (i + 1), b3, c3, rfl, by rw [inc_w (n := i) (by omega), hsn, hln], st31.sub0, by omega, hP, by rw [hsn, hln, entCells_snoc]; exact hac⟩
    ·
     refine W_regionS ⟨(fun w' => InS w' d (pairCells P)), (fun _ => True)⟩ (.cons 1 0 (.cons 1 1 (.cons 1 2 (.cons 1 3 (.cons 1 4 (.cons 1 5 (.cons 1 6 (.cons 1 7 (.cons 1 8 (.cons 1 9 (.cons 1 10 (.cons 2 11 (.cons 2 12 (.cons 2 13 (.cons 0 14 .nil))))))))))))))) 15 (by kernel_rfl) (by kernel_rfl) ?_
     have st34 := st22.drew
     replace hP := hP.drew
     replace hac := hac.drew
     refine RS_sg 3 [.p a18, .p a11, .p (.int .i64 ((i : Nat) : Int))] [(7, a11), (9, .int .i64 ((i : Nat) : Int)), (40, a18), (41, a11), (42, .int .i64 ((i : Nat) : Int))] ((InS.of_own hP.own).ext0 (Ext.refl [] _)) (fun _ hS => trivial) ?_
     refine RS_q rfl rfl ((InS.of_own hP.own).ext0 (Ext.refl [] _)) (v := .pointer (some ⟨(sp d), so d + i * 10, none⟩)) (fun _ _ => ev_indexI idxPair rfl rfl hbs hlt) ?_
     refine RS_sg 4 [.p (.pointer (some ⟨(sp d), so d + i * 10, none⟩)), .l 61 (.pointer (some ⟨(sp d), so d + i * 10, none⟩)) a20, .p a11, .p (.int .i64 ((i : Nat) : Int))] [(7, a11), (9, .int .i64 ((i : Nat) : Int)), (40, a18), (45, a20), (46, a11), (47, .int .i64 ((i : Nat) : Int))] ((InS.of_own hP.own).ext0 (Ext.refl [] _)) (fun _ hS => ⟨(InS.loadN agg_61 (hS) (pairCells_a hp) rfl (by decide)), trivial⟩) ?_
     refine RS_q rfl rfl ((InS.of_own hP.own).ext0 (Ext.refl [] _)) (v := .pointer (some ⟨(sp d), so d + i * 10, none⟩)) (fun _ _ => ev_indexI idxPair rfl rfl hbs hlt) ?_
     let a35 : Value := .agg #[.string p.2.key, .int .i64 p.2.c, .int .i64 p.2.n, .string p.2.val, .bool p.2.dead]
     refine RS_sg 2 [.p (.pointer (some ⟨(sp d), so d + i * 10 + 5, none⟩)), .l 61 (.pointer (some ⟨(sp d), so d + i * 10 + 5, none⟩)) a35] [(7, a11), (9, .int .i64 ((i : Nat) : Int)), (40, a18), (45, a20), (50, a35)] ((InS.of_own hP.own).ext0 (Ext.refl [] _)) (fun _ hS => ⟨(InS.loadNf (o := i * 10) (k := 5) agg_61 (hS) (pairCells_b hp) rfl (by decide)), trivial⟩) ?_
     refine RS_e rfl rfl (ef_call (k := 56) (args := [a20, a35]) (ref03best_cr p.1 p.2 _) body_56 (by kernel_rfl)) ?_
     rintro _ w36 ⟨_, rfl, rfl, hx38⟩
     have st37 := st34.call0 hx38
     replace hP := hP.ext hx38 (by simp)
     replace hac := hac.ext hx38 (by simp)
     refine ⟨(InS.of_own hP.own).ext0 (Ext.refl [] _), ?_⟩
     refine RS_e rfl rfl (ef_new (t := 61) (cs := [.string ((best p.1 p.2).key), .int .i64 ((best p.1 p.2).c), .int .i64 ((best p.1 p.2).n), .string ((best p.1 p.2).val), .bool ((best p.1 p.2).dead)]) (fun g => .slice (some ⟨g, 0, none⟩) 1 1) st37 rfl rfl (fun _ => by kernel_rfl)) ?_
     rintro _ w39 ⟨g42, rfl, hg42, hg42', st40, hx41⟩
     replace hP := hP.ext hx41 (by simp)
     replace hac := hac.ext hx41 (by simp)
     refine ⟨(InS.of_own hP.own).ext0 (Ext.refl [] _), ?_⟩
     have hac0 := hac.own
     refine RS_e rfl rfl (ef_appendI appEnt (st40.sub (M' := []) [] (List.sublist_cons_self _ _)) hac rfl rfl (InS.of_blk (st40.get 0 rfl)) rfl rfl (by simp only [maxLen]; omega) (by omega) (hapart)) ?_
     rintro _ w43 ⟨v3, rfl, hac, st44, hx45⟩
     replace hP := hP.ext hx45 (own_apart hP.own hac0 (by decide))
     obtain ⟨b3, c3, rfl⟩ := ownsRow.form' hac.own
     refine ⟨(InS.of_own hP.own).ext0 (Ext.refl [] _), ?_⟩
     let a46 : Value := .slice b3 ((maxF (P.take i)).length + 1) c3
     refine RS_sgP 1 [.p a46] [(7, a11), (8, a46), (9, .int .i64 ((i : Nat) : Int))] (fun _ => trivial) ?_
     refine RS_nil <| n_block <| n_then <| W_region <| RP_sg 3 [.p (.int .i64 ((i : Nat) : Int)), .p (.int .i64 (IntKind.i64.wrap (((i : Nat) : Int) + 1))), .p (.int .i64 (IntKind.i64.wrap (((i : Nat) : Int) + 1)))] [(7, a11), (8, a46), (9, .int .i64 (IntKind.i64.wrap (((i : Nat) : Int) + 1)))] trivial ?_
     refine RP_nil ?_
     have hlp : maxP p = (best p.1 p.2) := by unfold maxP; rw [c31_24]; rfl
     have hsn : maxF (P.take (i + 1)) = (maxF (P.take i)) ++ [(best p.1 p.2)] := by rw [tk_snoc hp]; unfold maxF; rw [List.map_append, ← hlp]; rfl
     have hln : ((maxF (P.take i)) ++ [(best p.1 p.2)]).length = (maxF (P.take i)).length + 1 := by simp
     exact ⟨_, by omega, (i + 1), b3, c3, rfl, by rw [inc_w (n := i) (by omega), hsn, hln], st44.sub0, by omega, hP, by rw [hsn, hln, entCells_snoc]; exact hac⟩
   ·
    have c23_19p := of_decide_eq_false c23_19
    refine W_exit ?_
    refine e_then <| e_loop <| e_here ?_
    refine n_then <| W_seq <| W_region <| RP_sg 3 [.p a18, .p a18, .p (.int .i64 0)] [(4, a18), (5, .int .i64 0)] trivial ?_
    refine RP_nil <| n_then <| W_ret ?_
    have hz : chk2 A B = 0 := by simpa using c14_6
    have hiL : i = P.length := by omega
    rw [hiL, List.take_length] at hac
    refine ret_of (P := Tryd.prog) (fn := Tryd.f21) (m := [(4, .slice b2 ((maxF (P.take i)).length) c2), (5, .int .i64 0)]) (w := w17) (res2 rfl (rv_tmp rfl) (rv_tmp rfl)) ?_
    exact ⟨b2, c2, by rw [hz, hiL, List.take_length], hac, st16.ext⟩
theorem ref09In_cr {w : World} {b : Option Addr} {c : Nat} (L : List Ent) (r : Rng) (hin : InS w b (entCells L)) (hL : L.length < 100000) :
    CR Tryd.prog 16 [.slice b L.length c, r.v] w fun v w' => ∃ d f, v = .tuple #[.slice d (cond (inErr L r != 0) [] (inL L r)).length f, .int .i64 (inErr L r)] ∧ Acc w [] w' 61 5 (.slice d (cond (inErr L r != 0) [] (inL L r)).length f) (cond (inErr L r != 0) [] (inL L r)).length (entCells (cond (inErr L r != 0) [] (inL L r))) ∧ Ext [] w w' := by
  have st := St.init w []
  refine CR_enter Tryd.func16 rfl Tryd.ntmps16 rfl ?_
  refine W_seq <| W_region <| RP_e rfl (ef_box st rfl rfl) ?_
  rintro _ w1 ⟨g4, rfl, hg4, hg4', st2, hx3⟩
  replace st2 : St [] w w1 [(g4, 24, [.string r.lo, .string r.hi, .bool r.op])] := st2
  let a5 : Value := .slice b L.length c
  let a6 : Value := .pointer (some ⟨g4, 0, none⟩)
  refine RP_sg 2 [.p (.slice none 0 0), .p (.int .i64 0)] [(0, a5), (3, a6)] trivial ?_
  refine RP_nil <| n_then <| W_seq <| W_region <| RP_sg 1 [.p a5] [(0, a5), (3, a6), (9, a5)] trivial ?_
  refine RP_e rfl (ef_call (k := 49) (args := [a5]) (ref09Check_cr L (hin.ext0 st2.ext) (by omega)) body_49 (by kernel_rfl)) ?_
  rintro _ w7 ⟨_, rfl, rfl, hx9⟩
  have st8 := st2.call0 hx9
  refine RP_sg 1 [.p (.int .i64 (chkM none L))] [(0, a5), (3, a6), (6, .int .i64 (chkM none L))] trivial ?_
  refine RP_nil <| n_then <| W_seq <| W_seq <| W_region <| RP_sg 2 [.p (.int .i64 (chkM none L)), .p (.bool ((chkM none L) != 0))] [(0, a5), (3, a6), (6, .int .i64 (chkM none L)), (12, .bool ((chkM none L) != 0))] trivial ?_
  refine RP_nil <| n_then <| W_cond rfl (fun c12_10 => ?_) (fun c12_10 => ?_)
  ·
   refine W_seq <| W_region ?_
   let a11 : Value := .slice none 0 0
   refine RP_sg 3 [.p (.int .i64 (chkM none L)), .p a11, .p (.int .i64 (chkM none L))] [(4, a11), (5, .int .i64 (chkM none L))] trivial ?_
   refine RP_nil <| n_then <| W_ret <| r_then ?_
   have hz : inErr L r = chkM none L := by unfold inErr; (try rw [c12_10]); rfl
   have hd : (inErr L r != 0) = true := by rw [hz]; exact c12_10
   refine ret_of (P := Tryd.prog) (fn := Tryd.f16) (m := [(4, .slice none 0 0), (5, .int .i64 (chkM none L))]) (w := w7) (res2 rfl (rv_tmp rfl) (rv_tmp rfl)) ?_
   exact ⟨none, 0, by rw [hd, hz]; rfl, by rw [hd]; exact Acc.nil _ _ _ _ _, st8.ext⟩
  ·
   refine W_skip <| n_then <| W_seq <| W_region ?_
   let a12 : Value := .agg #[.string r.lo, .string r.hi, .bool r.op]
   refine RP_sg 1 [.l 24 a6 a12] [(0, a5), (3, a6), (14, a12)] ⟨ldN st8 agg_24 0 rfl rfl rfl, trivial⟩ ?_
   refine RP_e rfl (ef_call (k := 43) (args := [a12]) (ref02_cr r _) body_43 (by kernel_rfl)) ?_
   rintro _ w13 ⟨_, rfl, rfl, hx15⟩
   have st14 := st8.call0 hx15
   refine RP_sg 1 [.p (.int .i64 r.check)] [(0, a5), (3, a6), (6, .int .i64 r.check)] trivial ?_
   refine RP_nil <| n_then <| W_seq <| W_seq <| W_region <| RP_sg 2 [.p (.int .i64 r.check), .p (.bool (r.check != 0))] [(0, a5), (3, a6), (6, .int .i64 r.check), (17, .bool (r.check != 0))] trivial ?_
   refine RP_nil <| n_then <| W_cond rfl (fun c17_16 => ?_) (fun c17_16 => ?_)
   ·
    refine W_seq <| W_region ?_
    let a17 : Value := .slice none 0 0
    refine RP_sg 3 [.p (.int .i64 r.check), .p a17, .p (.int .i64 r.check)] [(4, a17), (5, .int .i64 r.check)] trivial ?_
    refine RP_nil <| n_then <| W_ret <| r_then ?_
    have hz : inErr L r = r.check := by unfold inErr; (try rw [c12_10]); (try rw [c17_16]); rfl
    have hd : (inErr L r != 0) = true := by rw [hz]; exact c17_16
    refine ret_of (P := Tryd.prog) (fn := Tryd.f16) (m := [(4, .slice none 0 0), (5, .int .i64 r.check)]) (w := w13) (res2 rfl (rv_tmp rfl) (rv_tmp rfl)) ?_
    exact ⟨none, 0, by rw [hd, hz]; rfl, by rw [hd]; exact Acc.nil _ _ _ _ _, st14.ext⟩
   ·
    refine W_skip <| n_then <| W_seq <| W_region <| RP_e rfl (ef_new (t := 61) (cs := []) (fun g => .slice (some ⟨g, 0, none⟩) 0 0) st14 rfl rfl (fun _ => by kernel_rfl)) ?_
    rintro _ w18 ⟨g8, rfl, hg8, hg8', st19, hx20⟩
    let a21 : Value := .slice (some ⟨g8, 0, none⟩) 0 0
    refine RP_sg 1 [.p a21] [(0, a5), (3, a6), (7, a21)] trivial ?_
    refine RP_nil <| n_then <| W_seq <| W_seq <| W_region <| RP_sg 1 [.p (.int .i64 0)] [(0, a5), (3, a6), (7, a21), (8, .int .i64 0)] trivial ?_
    refine RP_nil <| n_then <| W_block <| W_loop (fun k_ m_ w_ => ∃ (i : Nat) (b2 : Option Addr) (c2 : Nat), L.length - i = k_ ∧ m_ = [(0, a5), (3, a6), (7, .slice b2 ((inL (L.take i) r).length) c2), (8, .int .i64 ((i : Nat) : Int))] ∧ St [] w w_ [(g4, 24, [.string r.lo, .string r.hi, .bool r.op])] ∧ i ≤ L.length ∧ Acc w [] w_ 61 5 (.slice b2 (inL (L.take i) r).length c2) (inL (L.take i) r).length (entCells (inL (L.take i) r))) ⟨0, _, _, rfl, rfl, st19.sub [] (List.sublist_cons_self _ _), Nat.zero_le _, Acc.of_new (size := 5) (j := 0) st19 0 rfl rfl (by decide) hg8⟩ ?_
    rintro _ _ w23 ⟨i, b2, c2, rfl, rfl, st22, hil, hac⟩
    have hle9 := inL_le (L.take i) r
    simp only [List.length_take] at hle9
    refine W_seq <| W_seq <| W_region ?_
    let a24 : Value := .slice b2 ((inL (L.take i) r).length) c2
    refine RP_sg 4 [.p (.int .i64 ((i : Nat) : Int)), .p a5, .p (.int .i64 ((L.length : Nat) : Int)), .p (.bool (decide (((i : Nat) : Int) < ((L.length : Nat) : Int))))] [(0, a5), (3, a6), (7, a24), (8, .int .i64 ((i : Nat) : Int)), (23, .bool (decide (((i : Nat) : Int) < ((L.length : Nat) : Int))))] trivial ?_
    refine RP_nil <| n_then <| W_cond rfl (fun c23_25 => ?_) (fun c23_25 => ?_)
    ·
     have c23_25p := of_decide_eq_true c23_25
     refine W_skip <| n_then <| W_seq <| W_block <| W_seq <| W_regionS ⟨(fun w' => Blk w' g4 24 [.string r.lo, .string r.hi, .bool r.op].toArray ∧ InS w' b (entCells L)), (fun _ => True)⟩ (.cons 1 0 (.cons 1 1 (.cons 1 2 (.cons 1 3 (.cons 1 4 (.cons 1 5 (.cons 2 6 .nil))))))) 7 (by kernel_rfl) (by kernel_rfl) ?_
     have st26 := st22.drew
     replace hac := hac.drew
     refine RS_sg 3 [.l 24 a6 a12, .p a5, .p (.int .i64 ((i : Nat) : Int))] [(0, a5), (3, a6), (7, a24), (8, .int .i64 ((i : Nat) : Int)), (26, a12), (27, a5), (28, .int .i64 ((i : Nat) : Int))] (⟨st26.get 0 rfl, hin.ext0 st26.ext⟩) (fun _ hS => ⟨ldNb (hS.1) agg_24 rfl rfl, trivial⟩) ?_
     have hlt : i < L.length := by omega
     obtain ⟨e, he⟩ : ∃ e, L[i]? = some e := ⟨L[i], by simp [hlt]⟩
     have hbs := hin.some_ (by rw [entCells_len]; omega)
     refine RS_q rfl rfl (⟨st26.get 0 rfl, hin.ext0 st26.ext⟩) (v := .pointer (some ⟨(sp b), so b + i * 5, none⟩)) (fun _ _ => ev_indexI idxEnt rfl rfl hbs hlt) ?_
     refine RS_sg 2 [.p (.pointer (some ⟨(sp b), so b + i * 5, none⟩)), .l 9 (.pointer (some ⟨(sp b), so b + i * 5, none⟩)) (.string e.key)] [(0, a5), (3, a6), (7, a24), (8, .int .i64 ((i : Nat) : Int)), (26, a12), (31, .string e.key)] (⟨st26.get 0 rfl, hin.ext0 st26.ext⟩) (fun _ hS => ⟨(InS.load1 nagg_9 (hS.2) (entCells_0 he rfl)), trivial⟩) ?_
     refine RS_e rfl rfl (ef_call (k := 50) (args := [a12, .string e.key]) (ref02holds_cr r e.key _) body_50 (by kernel_rfl)) ?_
     rintro _ w27 ⟨_, rfl, rfl, hx29⟩
     have st28 := st26.call0 hx29
     replace hac := hac.ext hx29 (by simp)
     refine ⟨⟨st28.get 0 rfl, hin.ext0 st28.ext⟩, ?_⟩
     refine RS_pk [(0, a5), (3, a6), (7, a24), (8, .int .i64 ((i : Nat) : Int)), (32, .bool (r.holds e.key))] ?_
     refine RS_nil <| n_then <| W_cond rfl (fun c32_30 => ?_) (fun c32_30 => ?_)
     ·
      refine W_region <| RP_sg 3 [.p a24, .p a5, .p (.int .i64 ((i : Nat) : Int))] [(0, a5), (3, a6), (8, .int .i64 ((i : Nat) : Int)), (33, a24), (34, a5), (35, .int .i64 ((i : Nat) : Int))] trivial ?_
      refine RP_q rfl (v := .pointer (some ⟨(sp b), so b + i * 5, none⟩)) (ev_indexI idxEnt rfl rfl hbs hlt) ?_
      let a31 : Value := .agg #[.string e.key, .int .i64 e.c, .int .i64 e.n, .string e.val, .bool e.dead]
      refine RP_sg 1 [.l 61 (.pointer (some ⟨(sp b), so b + i * 5, none⟩)) a31] [(0, a5), (3, a6), (8, .int .i64 ((i : Nat) : Int)), (33, a24), (37, a31)] ⟨InS.loadN agg_61 (hin.ext0 st28.ext) (entCells_at he) rfl (by decide), trivial⟩ ?_
      refine RP_e rfl (ef_new (t := 61) (cs := [.string e.key, .int .i64 e.c, .int .i64 e.n, .string e.val, .bool e.dead]) (fun g => .slice (some ⟨g, 0, none⟩) 1 1) st28 rfl rfl (fun _ => by kernel_rfl)) ?_
      rintro _ w32 ⟨g35, rfl, hg35, hg35', st33, hx34⟩
      replace hac := hac.ext hx34 (by simp)
      refine RP_e rfl (ef_appendI appEnt (st33.sub (M' := [(g4, 24, [.string r.lo, .string r.hi, .bool r.op])]) [] (List.sublist_cons_self _ _)) hac rfl rfl (InS.of_blk (st33.get 0 rfl)) rfl rfl (by simp only [maxLen]; omega) (by omega) (Acc.apart hac (st33.sub [] (List.sublist_cons_self _ _)) rfl)) ?_
      rintro _ w36 ⟨v3, rfl, hac, st37, hx38⟩
      obtain ⟨b3, c3, rfl⟩ := ownsRow.form' hac.own
      let a39 : Value := .slice b3 ((inL (L.take i) r).length + 1) c3
      refine RP_sg 1 [.p a39] [(0, a5), (3, a6), (7, a39), (8, .int .i64 ((i : Nat) : Int))] trivial ?_
      refine RP_nil <| n_block <| n_then <| W_region <| RP_sg 3 [.p (.int .i64 ((i : Nat) : Int)), .p (.int .i64 (IntKind.i64.wrap (((i : Nat) : Int) + 1))), .p (.int .i64 (IntKind.i64.wrap (((i : Nat) : Int) + 1)))] [(0, a5), (3, a6), (7, a39), (8, .int .i64 (IntKind.i64.wrap (((i : Nat) : Int) + 1)))] trivial ?_
      refine RP_nil ?_
      have hsn : inL (L.take (i + 1)) r = (inL (L.take i) r) ++ [e] := by rw [inL_succ he, c32_30]; simp
      have hln : ((inL (L.take i) r) ++ [e]).length = (inL (L.take i) r).length + 1 := by simp
      exact ⟨_, by omega, (i + 1), b3, c3, rfl, by rw [inc_w (n := i) (by omega), hsn, hln], st37, by omega, by rw [hsn, hln, entCells_snoc]; exact hac⟩
     ·
      refine W_skip <| n_block <| n_then <| W_region <| RP_sg 3 [.p (.int .i64 ((i : Nat) : Int)), .p (.int .i64 (IntKind.i64.wrap (((i : Nat) : Int) + 1))), .p (.int .i64 (IntKind.i64.wrap (((i : Nat) : Int) + 1)))] [(0, a5), (3, a6), (7, a24), (8, .int .i64 (IntKind.i64.wrap (((i : Nat) : Int) + 1)))] trivial ?_
      refine RP_nil ?_
      have hsn : inL (L.take (i + 1)) r = (inL (L.take i) r) := by rw [inL_succ he, c32_30]; simp
      exact ⟨_, by omega, (i + 1), b2, c2, rfl, by rw [inc_w (n := i) (by omega), hsn], st28, by omega, by rw [hsn]; exact hac⟩
    ·
     have c23_25p := of_decide_eq_false c23_25
     refine W_exit ?_
     refine e_then <| e_loop <| e_here ?_
     refine n_then <| W_seq <| W_region <| RP_sg 3 [.p a24, .p a24, .p (.int .i64 0)] [(4, a24), (5, .int .i64 0)] trivial ?_
     refine RP_nil <| n_then <| W_ret ?_
     have hiL : i = L.length := by omega
     have hz : inErr L r = 0 := by unfold inErr; (try rw [c12_10]); (try rw [c17_16]); (try rw [c23_25]); rfl
     have hd : (inErr L r != 0) = false := by rw [hz]; rfl
     rw [hiL, List.take_length] at hac
     refine ret_of (P := Tryd.prog) (fn := Tryd.f16) (m := [(4, .slice b2 ((inL (L.take i) r).length) c2), (5, .int .i64 0)]) (w := w23) (res2 rfl (rv_tmp rfl) (rv_tmp rfl)) ?_
     exact ⟨b2, c2, by rw [hiL, List.take_length, hd, hz]; rfl, by rw [hd]; exact hac, st22.ext⟩
end Go.Proofs.YtcopemgkjbaaeaaDoor
