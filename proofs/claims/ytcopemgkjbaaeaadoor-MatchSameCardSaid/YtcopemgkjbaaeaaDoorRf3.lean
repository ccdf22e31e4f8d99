/-
  ref04.Of, ref05.Of, All; ref08.All, Fold; ref13.Print.
-/
import Derived.Test.YtcopemgkjbaaeaaDoorWd2
namespace Go.Proofs.YtcopemgkjbaaeaaDoor
set_option linter.all false
open Go.RowKit

theorem keyWords_len : ∀ (k : Nat) (l : List UInt8), l.length = k → (keyWords l).length ≤ l.length := by
  intro k
  induction k using Nat.strongRecOn with
  | _ k ih =>
    intro l hl
    rcases Nat.eq_zero_or_pos l.length with h | h
    · rw [List.eq_nil_of_length_eq_zero h]; simp [keyWords]
    · rw [keyWords_cons h]
      have := ih (l.drop 8).length (by simp only [List.length_drop]; omega) (l.drop 8) rfl
      simp only [List.length_cons, List.length_drop] at *; omega
theorem mixWords_len {key : ByteArray} {c n : Int} (hk : key.size < 10000000) : (mixWords key c n).length < 100000000 := by
  have h := keyWords_len _ key.toList rfl
  have := size_toList key
  simp only [mixWords, List.length_cons, List.length_append, List.length_nil]; omega
theorem ref04of_cr (key : ByteArray) (c n : Int) (w : World) (hk : key.size < 10000000) : CR Tryd.prog 150 [.string key, .agg #[.int .i64 c, .int .i64 n]] w fun v w' =>
    v = .agg #[.int .u64 (laneA (mixWords key c n)), .int .u64 (laneB (mixWords key c n))] ∧ Ext [] w w' := by
  have st := St.init w []
  have hml := mixWords_len (c := c) (n := n) hk
  refine CR_enter Tryd.func150 rfl Tryd.ntmps150 rfl ?_
  refine W_seq ?_
  refine W_region ?_
  refine RP_e rfl (ef_box st rfl rfl) ?_
  rintro _ w1 ⟨g4, rfl, hg4, hg4', st2, hx3⟩
  replace st2 : St [] w w1 [(g4, 59, [.int .i64 c, .int .i64 n])] := st2
  refine RP_e rfl (ef_alloc st2 zero_30 rfl) ?_
  rintro _ w5 ⟨g8, rfl, hg8, hg8', st6, hx7⟩
  replace st6 : St [] w w5 [(g8, 30, [.int .u64 0, .int .u64 0]), (g4, 59, [.int .i64 c, .int .i64 n])] := st6
  refine RP_pick [0, 3, 4] (by kernel_rfl : pick _ _ = some [(0, .string key), (3, .pointer (some ⟨g4, 0, none⟩)), (4, .pointer (some ⟨g8, 0, none⟩))]) ?_
  refine RP_nil ?_
  refine n_then ?_
  refine W_seq ?_
  refine W_region ?_
  refine RP_seg 2 [.p (.string key), .l 59 (.pointer (some ⟨g4, 0, none⟩)) (.agg #[.int .i64 c, .int .i64 n])] [4, 6, 7] (by kernel_rfl) (fun _ => by kernel_rfl) (by kernel_rfl : pick _ _ = some [(4, .pointer (some ⟨g8, 0, none⟩)), (6, .string key), (7, .agg #[.int .i64 c, .int .i64 n])]) ⟨ldN st6 agg_59 1 rfl rfl rfl, trivial⟩ ?_
  refine RP_e rfl (ef_call (k := 156) (args := [.string key, .agg #[.int .i64 c, .int .i64 n]]) (words_cr key c n hk) body_156 (by kernel_rfl)) ?_
  rintro _ w9 ⟨_, rfl, b, d, rfl, hin, hx11⟩
  have st10 := st6.call0 hx11
  refine RP_seg 1 [.p (.slice b ((mixWords key c n).length) d)] [4, 5] (by kernel_rfl) (fun _ => by kernel_rfl) (by kernel_rfl : pick _ _ = some [(4, .pointer (some ⟨g8, 0, none⟩)), (5, .slice b ((mixWords key c n).length) d)]) (trivial) ?_
  refine RP_pick [4, 5] (by kernel_rfl : pick _ _ = some [(4, .pointer (some ⟨g8, 0, none⟩)), (5, .slice b ((mixWords key c n).length) d)]) ?_
  refine RP_nil ?_
  refine n_then ?_
  refine W_seq ?_
  refine W_region ?_
  refine RP_seg 1 [.p (.slice b ((mixWords key c n).length) d)] [4, 5, 9] (by kernel_rfl) (fun _ => by kernel_rfl) (by kernel_rfl : pick _ _ = some [(4, .pointer (some ⟨g8, 0, none⟩)), (5, .slice b ((mixWords key c n).length) d), (9, .slice b ((mixWords key c n).length) d)]) (trivial) ?_
  refine RP_e rfl (ef_call (k := 157) (args := [.int .u64 2611923443488327891, .int .u64 11400714819323198485, .int .i64 29, .slice b ((mixWords key c n).length) d]) (lane29_cr _ _ _ hin hml) body_157 (by kernel_rfl)) ?_
  rintro _ _ ⟨_, rfl, rfl, rfl⟩
  refine RP_seg 1 [.p (.slice b ((mixWords key c n).length) d)] [4, 10, 11] (by kernel_rfl) (fun _ => by kernel_rfl) (by kernel_rfl : pick _ _ = some [(4, .pointer (some ⟨g8, 0, none⟩)), (10, .int .u64 (laneA (mixWords key c n))), (11, .slice b ((mixWords key c n).length) d)]) (trivial) ?_
  refine RP_e rfl (ef_call (k := 157) (args := [.int .u64 1376283091369227076, .int .u64 14029467366897019727, .int .i64 32, .slice b ((mixWords key c n).length) d]) (lane32_cr _ _ _ hin hml) body_157 (by kernel_rfl)) ?_
  rintro _ _ ⟨_, rfl, rfl, rfl⟩
  refine RP_seg 1 [.p (.agg #[.int .u64 (laneA (mixWords key c n)), .int .u64 (laneB (mixWords key c n))])] [4, 13] (by kernel_rfl) (fun _ => by kernel_rfl) (by kernel_rfl : pick _ _ = some [(4, .pointer (some ⟨g8, 0, none⟩)), (13, .agg #[.int .u64 (laneA (mixWords key c n)), .int .u64 (laneB (mixWords key c n))])]) (trivial) ?_
  refine RP_e rfl (ef_store st10 rfl rfl rfl size_30 0 rfl rfl rfl rfl (.inr hg8)) ?_
  rintro _ w18 ⟨rfl, st19, hx20⟩
  replace st19 : St [] w w18 [(g8, 30, [.int .u64 (laneA (mixWords key c n)), .int .u64 (laneB (mixWords key c n))]), (g4, 59, [.int .i64 c, .int .i64 n])] := st19
  refine RP_pick [4] (by kernel_rfl : pick _ _ = some [(4, .pointer (some ⟨g8, 0, none⟩))]) ?_
  refine RP_nil ?_
  refine n_then ?_
  refine W_ret ?_
  refine ret_of (P := Tryd.prog) (fn := Tryd.f150) (m := [(4, .pointer (some ⟨g8, 0, none⟩))]) (w := w18) (res1 rfl (rv_cell rfl (by simpa [Instr.loadAt, Instr.sureAddr] using (ldN st19 agg_30 0 rfl rfl rfl)))) ?_
  -- return 0: .agg #[.int .u64 (laneA (mixWords key c n)), .int .u64 (laneB (mixWords key c n))]
  exact ⟨rfl, st19.ext⟩
theorem ref05of_cr (e : Ent) (w : World) (hk : e.key.size < 10000000) : CR Tryd.prog 135 [e.v] w fun v w' => v = e.tal.v ∧ Ext [] w w' := by
  have st := St.init w []
  refine CR_enter Tryd.func135 rfl Tryd.ntmps135 rfl ?_
  refine W_seq ?_
  refine W_region ?_
  refine RP_e rfl (ef_box st rfl rfl) ?_
  rintro _ w1 ⟨g4, rfl, hg4, hg4', st2, hx3⟩
  replace st2 : St [] w w1 [(g4, 61, [.string e.key, .int .i64 e.c, .int .i64 e.n, .string e.val, .bool e.dead])] := st2
  refine RP_e rfl (ef_alloc st2 zero_32 rfl) ?_
  rintro _ w5 ⟨g8, rfl, hg8, hg8', st6, hx7⟩
  replace st6 : St [] w w5 [(g8, 32, [.int .i64 0, .int .u64 0, .int .u64 0]), (g4, 61, [.string e.key, .int .i64 e.c, .int .i64 e.n, .string e.val, .bool e.dead])] := st6
  refine RP_pick [1, 2] (by kernel_rfl : pick _ _ = some [(1, .pointer (some ⟨g4, 0, none⟩)), (2, .pointer (some ⟨g8, 0, none⟩))]) ?_
  refine RP_nil ?_
  refine n_then ?_
  refine W_seq ?_
  refine W_region ?_
  refine RP_seg 4 [.p (.pointer (some ⟨g4, 0, none⟩)), .l 9 (.pointer (some ⟨g4, 0, none⟩)) (.string e.key), .p (.pointer (some ⟨g4, 1, none⟩)), .l 59 (.pointer (some ⟨g4, 1, none⟩)) (.agg #[.int .i64 e.c, .int .i64 e.n])] [2, 4, 6] (by kernel_rfl) (fun _ => by kernel_rfl) (by kernel_rfl : pick _ _ = some [(2, .pointer (some ⟨g8, 0, none⟩)), (4, .string e.key), (6, .agg #[.int .i64 e.c, .int .i64 e.n])]) ⟨ld1 st6 nagg_9 1 rfl rfl, ldN st6 agg_59 1 rfl rfl rfl, trivial⟩ ?_
  refine RP_e rfl (ef_call (k := 150) (args := [.string e.key, .agg #[.int .i64 e.c, .int .i64 e.n]]) (ref04of_cr _ _ _ _ hk) body_150 (by kernel_rfl)) ?_
  rintro _ w9 ⟨_, rfl, rfl, hx11⟩
  have st10 := st6.call0 hx11
  refine RP_seg 1 [.p (.agg #[.int .i64 1, .int .u64 (laneA (mixWords e.key e.c e.n)), .int .u64 (laneB (mixWords e.key e.c e.n))])] [2, 8] (by kernel_rfl) (fun _ => by kernel_rfl) (by kernel_rfl : pick _ _ = some [(2, .pointer (some ⟨g8, 0, none⟩)), (8, .agg #[.int .i64 1, .int .u64 (laneA (mixWords e.key e.c e.n)), .int .u64 (laneB (mixWords e.key e.c e.n))])]) (trivial) ?_
  refine RP_e rfl (ef_store st10 rfl rfl rfl size_32 0 rfl rfl rfl rfl (.inr hg8)) ?_
  rintro _ w12 ⟨rfl, st13, hx14⟩
  replace st13 : St [] w w12 [(g8, 32, [.int .i64 1, .int .u64 (laneA (mixWords e.key e.c e.n)), .int .u64 (laneB (mixWords e.key e.c e.n))]), (g4, 61, [.string e.key, .int .i64 e.c, .int .i64 e.n, .string e.val, .bool e.dead])] := st13
  refine RP_pick [2] (by kernel_rfl : pick _ _ = some [(2, .pointer (some ⟨g8, 0, none⟩))]) ?_
  refine RP_nil ?_
  refine n_then ?_
  refine W_ret ?_
  refine ret_of (P := Tryd.prog) (fn := Tryd.f135) (m := [(2, .pointer (some ⟨g8, 0, none⟩))]) (w := w12) (res1 rfl (rv_cell rfl (by simpa [Instr.loadAt, Instr.sureAddr] using (ldN st13 agg_32 0 rfl rfl rfl)))) ?_
  -- return 0: .agg #[.int .i64 1, .int .u64 (laneA (mixWords e.key e.c e.n)), .int .u64 (laneB (mixWords e.key e.c e.n))]
  exact ⟨rfl, st13.ext⟩
def allTal (l : List Ent) : Tal := l.foldl (fun t e => t.join e.tal) Tal.zero
theorem allTal_succ {l : List Ent} {i : Nat} {e : Ent} (he : l[i]? = some e) : allTal (l.take (i + 1)) = (allTal (l.take i)).join e.tal := by
  unfold allTal
  rw [List.take_succ, he]; simp
theorem ref05all_cr {w : World} {b : Option Addr} {c : Nat} (L : List Ent) (hin : InS w b (entCells L)) (hk : ∀ e ∈ L, e.key.size < 10000000) (hL : L.length < 1000000) :
    CR Tryd.prog 104 [.slice b L.length c] w fun v w' => v = (allTal L).v ∧ Ext [] w w' := by
  have st := St.init w []
  refine CR_enter Tryd.func104 rfl Tryd.ntmps104 rfl ?_
  refine W_seq ?_
  refine W_region ?_
  refine RP_e rfl (ef_alloc st zero_32 rfl) ?_
  rintro _ w1 ⟨g2, rfl, hg2, hg2', st2, hx3⟩
  replace st2 : St [] w w1 [(g2, 32, [.int .i64 0, .int .u64 0, .int .u64 0])] := st2
  refine RP_pick [0, 2] (by kernel_rfl : pick _ _ = some [(0, .slice b L.length c), (2, .pointer (some ⟨g2, 0, none⟩))]) ?_
  refine RP_nil ?_
  refine n_then ?_
  refine W_seq ?_
  refine W_region ?_
  refine RP_seg 1 [.p (.agg #[.int .i64 0, .int .u64 0, .int .u64 0])] [0, 2, 5] (by kernel_rfl) (fun _ => by kernel_rfl) (by kernel_rfl : pick _ _ = some [(0, .slice b L.length c), (2, .pointer (some ⟨g2, 0, none⟩)), (5, .agg #[.int .i64 0, .int .u64 0, .int .u64 0])]) (trivial) ?_
  refine RP_e rfl (ef_alloc st2 zero_32 rfl) ?_
  rintro _ w4 ⟨g3, rfl, hg3, hg3', st5, hx6⟩
  replace st5 : St [] w w4 [(g3, 32, [.int .i64 0, .int .u64 0, .int .u64 0]), (g2, 32, [.int .i64 0, .int .u64 0, .int .u64 0])] := st5
  refine RP_e rfl (ef_store st5 rfl rfl rfl size_32 0 rfl rfl rfl rfl (.inr hg3)) ?_
  rintro _ w7 ⟨rfl, st8, hx9⟩
  replace st8 : St [] w w7 [(g3, 32, [.int .i64 0, .int .u64 0, .int .u64 0]), (g2, 32, [.int .i64 0, .int .u64 0, .int .u64 0])] := st8
  refine RP_pick [0, 2, 3] (by kernel_rfl : pick _ _ = some [(0, .slice b L.length c), (2, .pointer (some ⟨g2, 0, none⟩)), (3, .pointer (some ⟨g3, 0, none⟩))]) ?_
  refine RP_nil ?_
  refine n_then ?_
  refine W_seq ?_
  refine W_seq ?_
  refine W_region ?_
  refine RP_seg 1 [.p (.int .i64 0)] [0, 2, 3, 4] (by kernel_rfl) (fun _ => by kernel_rfl) (by kernel_rfl : pick _ _ = some [(0, .slice b L.length c), (2, .pointer (some ⟨g2, 0, none⟩)), (3, .pointer (some ⟨g3, 0, none⟩)), (4, .int .i64 0)]) (trivial) ?_
  refine RP_pick [0, 2, 3, 4] (by kernel_rfl : pick _ _ = some [(0, .slice b L.length c), (2, .pointer (some ⟨g2, 0, none⟩)), (3, .pointer (some ⟨g3, 0, none⟩)), (4, .int .i64 0)]) ?_
  refine RP_nil ?_
  refine n_then ?_
  refine W_block ?_
  refine W_loop (fun k_ m_ w_ => ∃ (i : Nat) (o : Tal), L.length - i = k_ ∧ m_ = [(0, .slice b L.length c), (2, .pointer (some ⟨g2, 0, none⟩)), (3, .pointer (some ⟨g3, 0, none⟩)), (4, .int .i64 ((i : Nat) : Int))] ∧ St [] w w_ [(g3, 32, [.int .i64 o.k, .int .u64 o.a, .int .u64 o.b]), (g2, 32, [.int .i64 0, .int .u64 0, .int .u64 0])] ∧ i ≤ L.length ∧ o = allTal (L.take i)) ⟨0, Tal.zero, rfl, rfl, st8, Nat.zero_le _, rfl⟩ ?_
  rintro _ _ w11 ⟨i, o, rfl, rfl, st10, hil, ho⟩
  refine W_seq ?_
  refine W_seq ?_
  refine W_region ?_
  refine RP_seg 4 [.p (.int .i64 ((i : Nat) : Int)), .p (.slice b L.length c), .p (.int .i64 ((L.length : Nat) : Int)), .p (.bool (decide (((i : Nat) : Int) < ((L.length : Nat) : Int))))] [0, 2, 3, 4, 9] (by kernel_rfl) (fun _ => by kernel_rfl) (by kernel_rfl : pick _ _ = some [(0, .slice b L.length c), (2, .pointer (some ⟨g2, 0, none⟩)), (3, .pointer (some ⟨g3, 0, none⟩)), (4, .int .i64 ((i : Nat) : Int)), (9, .bool (decide (((i : Nat) : Int) < ((L.length : Nat) : Int))))]) (trivial) ?_
  refine RP_pick [0, 2, 3, 4, 9] (by kernel_rfl : pick _ _ = some [(0, .slice b L.length c), (2, .pointer (some ⟨g2, 0, none⟩)), (3, .pointer (some ⟨g3, 0, none⟩)), (4, .int .i64 ((i : Nat) : Int)), (9, .bool (decide (((i : Nat) : Int) < ((L.length : Nat) : Int))))]) ?_
  refine RP_nil ?_
  refine n_then ?_
  refine W_cond rfl (fun c9_12 => ?_) (fun c9_12 => ?_)
  ·
    have c9_12p := of_decide_eq_true c9_12
    refine W_skip ?_
    refine n_then ?_
    refine W_seq ?_
    refine W_block ?_
    have hlt : i < L.length := by omega
    obtain ⟨e, he⟩ : ∃ e, L[i]? = some e := ⟨L[i], by simp [hlt]⟩
    have hbs := hin.some_ (by rw [entCells_len]; omega)
    have hek := hk e (List.mem_of_getElem? he)
    -- region 5 draws: [(1, 0), (1, 1), (1, 2), (1, 3), (1, 4), (2, 5), (2, 6), (3, 7)]
    refine W_regionS (fun w' => Blk w' g3 32 [.int .i64 o.k, .int .u64 o.a, .int .u64 o.b].toArray ∧ InS w' b (entCells L)) [(1, 0), (1, 1), (1, 2), (1, 3), (1, 4), (2, 5), (2, 6), (3, 7)] 8 (by kernel_rfl) (by kernel_rfl) ?_
    have st13 := st10.drew
    refine RS_seg 3 [.l 32 (.pointer (some ⟨g3, 0, none⟩)) (.agg #[.int .i64 o.k, .int .u64 o.a, .int .u64 o.b]), .p (.slice b L.length c), .p (.int .i64 ((i : Nat) : Int))] [0, 2, 3, 4, 12, 13, 14] (by kernel_rfl) (by kernel_rfl) (⟨st13.get 0 rfl, hin.ext0 st13.ext⟩) (by kernel_rfl) (fun _ => by kernel_rfl) (by kernel_rfl : pick _ _ = some [(0, .slice b L.length c), (2, .pointer (some ⟨g2, 0, none⟩)), (3, .pointer (some ⟨g3, 0, none⟩)), (4, .int .i64 ((i : Nat) : Int)), (12, .agg #[.int .i64 o.k, .int .u64 o.a, .int .u64 o.b]), (13, .slice b L.length c), (14, .int .i64 ((i : Nat) : Int))]) (fun _ hS => ⟨ldNb (hS.1) agg_32 rfl rfl, trivial⟩) ?_
    refine RS_q rfl rfl (⟨st13.get 0 rfl, hin.ext0 st13.ext⟩) (v := .pointer (some ⟨(sp b), so b + i * 5, none⟩)) (fun _ _ => ev_indexI idxEnt rfl rfl hbs hlt) ?_
    refine RS_seg 1 [.l 61 (.pointer (some ⟨(sp b), so b + i * 5, none⟩)) (.agg #[.string e.key, .int .i64 e.c, .int .i64 e.n, .string e.val, .bool e.dead])] [0, 2, 3, 4, 12, 16] (by kernel_rfl) (by kernel_rfl) (⟨st13.get 0 rfl, hin.ext0 st13.ext⟩) (by kernel_rfl) (fun _ => by kernel_rfl) (by kernel_rfl : pick _ _ = some [(0, .slice b L.length c), (2, .pointer (some ⟨g2, 0, none⟩)), (3, .pointer (some ⟨g3, 0, none⟩)), (4, .int .i64 ((i : Nat) : Int)), (12, .agg #[.int .i64 o.k, .int .u64 o.a, .int .u64 o.b]), (16, .agg #[.string e.key, .int .i64 e.c, .int .i64 e.n, .string e.val, .bool e.dead])]) (fun _ hS => ⟨(InS.loadN agg_61 (hS.2) (entCells_at he) rfl (by decide)), trivial⟩) ?_
    refine RS_e rfl rfl (ef_call (k := 135) (args := [.agg #[.string e.key, .int .i64 e.c, .int .i64 e.n, .string e.val, .bool e.dead]]) (ref05of_cr e _ hek) body_135 (by kernel_rfl)) ?_
    rintro _ w14 ⟨_, rfl, rfl, hx16⟩
    have st15 := st13.call0 hx16
    refine ⟨⟨st15.get 0 rfl, hin.ext0 st15.ext⟩, ?_⟩
    refine RS_e rfl rfl (ef_call (k := 134) (args := [.agg #[.int .i64 o.k, .int .u64 o.a, .int .u64 o.b], .agg #[.int .i64 e.tal.k, .int .u64 e.tal.a, .int .u64 e.tal.b]]) (ref05join_cr o e.tal _) body_134 (by kernel_rfl)) ?_
    rintro _ w17 ⟨_, rfl, rfl, hx19⟩
    have st18 := st15.call0 hx19
    refine ⟨⟨st18.get 0 rfl, hin.ext0 st18.ext⟩, ?_⟩
    refine RS_f rfl rfl (ef_store st18 rfl rfl rfl size_32 0 rfl rfl rfl rfl (.inr hg3)) ?_
    rintro _ w20 ⟨rfl, st21, hx22⟩
    replace st21 : St [] w w20 [(g3, 32, [.int .i64 ((o.join e.tal).k), .int .u64 ((o.join e.tal).a), .int .u64 ((o.join e.tal).b)]), (g2, 32, [.int .i64 0, .int .u64 0, .int .u64 0])] := st21
    refine RS_pick [0, 2, 3, 4] (by kernel_rfl : pick _ _ = some [(0, .slice b L.length c), (2, .pointer (some ⟨g2, 0, none⟩)), (3, .pointer (some ⟨g3, 0, none⟩)), (4, .int .i64 ((i : Nat) : Int))]) ?_
    refine RS_nil ?_
    refine n_block ?_
    refine n_then ?_
    refine W_region ?_
    refine RP_seg 3 [.p (.int .i64 ((i : Nat) : Int)), .p (.int .i64 (IntKind.i64.wrap (((i : Nat) : Int) + 1))), .p (.int .i64 (IntKind.i64.wrap (((i : Nat) : Int) + 1)))] [0, 2, 3, 4] (by kernel_rfl) (fun _ => by kernel_rfl) (by kernel_rfl : pick _ _ = some [(0, .slice b L.length c), (2, .pointer (some ⟨g2, 0, none⟩)), (3, .pointer (some ⟨g3, 0, none⟩)), (4, .int .i64 (IntKind.i64.wrap (((i : Nat) : Int) + 1)))]) (trivial) ?_
    refine RP_pick [0, 2, 3, 4] (by kernel_rfl : pick _ _ = some [(0, .slice b L.length c), (2, .pointer (some ⟨g2, 0, none⟩)), (3, .pointer (some ⟨g3, 0, none⟩)), (4, .int .i64 (IntKind.i64.wrap (((i : Nat) : Int) + 1)))]) ?_
    refine RP_nil ?_
    -- back 0: [(0, .slice b L.length c), (2, .pointer (some ⟨g2, 0, none⟩)), (3, .pointer (some ⟨g3, 0, none⟩)), (4, .int .i64 (IntKind.i64.wrap (((i : Nat) : Int) + 1)))]
    exact ⟨_, by omega, (i + 1), (o.join e.tal), rfl, by rw [inc_w (n := i) (by omega)], st21, by omega, by rw [allTal_succ he, ← ho]⟩
  ·
    have c9_12p := of_decide_eq_false c9_12
    refine W_exit ?_
    refine e_then <| e_loop <| e_here ?_
    refine n_then ?_
    refine W_seq ?_
    refine W_region ?_
    refine RP_seg 1 [.l 32 (.pointer (some ⟨g3, 0, none⟩)) (.agg #[.int .i64 o.k, .int .u64 o.a, .int .u64 o.b])] [2, 19] (by kernel_rfl) (fun _ => by kernel_rfl) (by kernel_rfl : pick _ _ = some [(2, .pointer (some ⟨g2, 0, none⟩)), (19, .agg #[.int .i64 o.k, .int .u64 o.a, .int .u64 o.b])]) ⟨ldN st10 agg_32 0 rfl rfl rfl, trivial⟩ ?_
    refine RP_e rfl (ef_store st10 rfl rfl rfl size_32 1 rfl rfl rfl rfl (.inr hg2)) ?_
    rintro _ w23 ⟨rfl, st24, hx25⟩
    replace st24 : St [] w w23 [(g3, 32, [.int .i64 o.k, .int .u64 o.a, .int .u64 o.b]), (g2, 32, [.int .i64 o.k, .int .u64 o.a, .int .u64 o.b])] := st24
    refine RP_pick [2] (by kernel_rfl : pick _ _ = some [(2, .pointer (some ⟨g2, 0, none⟩))]) ?_
    refine RP_nil ?_
    refine n_then ?_
    refine W_ret ?_
    have hiL : i = L.length := by omega
    rw [hiL, List.take_length] at ho
    refine ret_of (P := Tryd.prog) (fn := Tryd.f104) (m := [(2, .pointer (some ⟨g2, 0, none⟩))]) (w := w23) (res1 rfl (rv_cell rfl (by simpa [Instr.loadAt, Instr.sureAddr] using (ldN st24 agg_32 1 rfl rfl rfl)))) ?_
    -- return 0: .agg #[.int .i64 o.k, .int .u64 o.a, .int .u64 o.b]
    exact ⟨by rw [← ho]; rfl, st24.ext⟩
def Rng.of (r : Rng) (l : List Ent) : List Ent := cond (r.check != 0) [] (l.filter fun e => r.holds e.key)
theorem filter_take {l : List Ent} {i : Nat} {e : Ent} {f : Ent → Bool} (he : l[i]? = some e) : (l.take (i + 1)).filter f = (l.take i).filter f ++ cond (f e) [e] [] := by
  rw [List.take_succ, he, List.filter_append]
  cases h : f e <;> simp [h]
theorem ref08all_cr {w : World} {gd : Nat} {node clock : Int} {b : Option Addr} {c : Nat} {L : List Ent} (r : Rng) (hD : Doc w gd node clock b c L) (hL : L.length ≤ 1000000) :
    CR Tryd.prog 87 [.pointer (some ⟨gd, 0, none⟩), r.v] w fun v w' => ∃ b' c', v = .tuple #[.slice b' (r.of L).length c', .int .i64 r.check] ∧ InS w' b' (entCells (r.of L)) ∧ Ext [] w w' := by
  have st := St.init w []
  have hb := hD.blk
  have hin := hD.ins
  refine CR_enter Tryd.func87 rfl Tryd.ntmps87 rfl ?_
  refine W_seq ?_
  refine W_region ?_
  refine RP_e rfl (ef_box st rfl rfl) ?_
  rintro _ w1 ⟨g4, rfl, hg4, hg4', st2, hx3⟩
  replace st2 : St [] w w1 [(g4, 24, [.string r.lo, .string r.hi, .bool r.op])] := st2
  refine RP_seg 2 [.p (.slice none 0 0), .p (.int .i64 0)] [0, 3] (by kernel_rfl) (fun _ => by kernel_rfl) (by kernel_rfl : pick _ _ = some [(0, .pointer (some ⟨gd, 0, none⟩)), (3, .pointer (some ⟨g4, 0, none⟩))]) (trivial) ?_
  refine RP_pick [0, 3] (by kernel_rfl : pick _ _ = some [(0, .pointer (some ⟨gd, 0, none⟩)), (3, .pointer (some ⟨g4, 0, none⟩))]) ?_
  refine RP_nil ?_
  refine n_then ?_
  refine W_seq ?_
  refine W_seq ?_
  refine W_region ?_
  refine RP_seg 1 [.l 24 (.pointer (some ⟨g4, 0, none⟩)) (.agg #[.string r.lo, .string r.hi, .bool r.op])] [0, 3, 10] (by kernel_rfl) (fun _ => by kernel_rfl) (by kernel_rfl : pick _ _ = some [(0, .pointer (some ⟨gd, 0, none⟩)), (3, .pointer (some ⟨g4, 0, none⟩)), (10, .agg #[.string r.lo, .string r.hi, .bool r.op])]) ⟨ldN st2 agg_24 0 rfl rfl rfl, trivial⟩ ?_
  refine RP_e rfl (ef_call (k := 43) (args := [.agg #[.string r.lo, .string r.hi, .bool r.op]]) (ref02_cr r _) body_43 (by kernel_rfl)) ?_
  rintro _ w5 ⟨_, rfl, rfl, hx7⟩
  have st6 := st2.call0 hx7
  refine RP_seg 1 [.p (.int .i64 r.check)] [0, 3, 6] (by kernel_rfl) (fun _ => by kernel_rfl) (by kernel_rfl : pick _ _ = some [(0, .pointer (some ⟨gd, 0, none⟩)), (3, .pointer (some ⟨g4, 0, none⟩)), (6, .int .i64 r.check)]) (trivial) ?_
  refine RP_pick [0, 3, 6] (by kernel_rfl : pick _ _ = some [(0, .pointer (some ⟨gd, 0, none⟩)), (3, .pointer (some ⟨g4, 0, none⟩)), (6, .int .i64 r.check)]) ?_
  refine RP_nil ?_
  refine n_then ?_
  refine W_seq ?_
  refine W_region ?_
  refine RP_seg 2 [.p (.int .i64 r.check), .p (.bool (r.check != 0))] [0, 3, 6, 13] (by kernel_rfl) (fun _ => by kernel_rfl) (by kernel_rfl : pick _ _ = some [(0, .pointer (some ⟨gd, 0, none⟩)), (3, .pointer (some ⟨g4, 0, none⟩)), (6, .int .i64 r.check), (13, .bool (r.check != 0))]) (trivial) ?_
  refine RP_pick [0, 3, 6, 13] (by kernel_rfl : pick _ _ = some [(0, .pointer (some ⟨gd, 0, none⟩)), (3, .pointer (some ⟨g4, 0, none⟩)), (6, .int .i64 r.check), (13, .bool (r.check != 0))]) ?_
  refine RP_nil ?_
  refine n_then ?_
  refine W_cond rfl (fun c13_8 => ?_) (fun c13_8 => ?_)
  ·
    refine W_seq ?_
    refine W_region ?_
    refine RP_seg 3 [.p (.int .i64 r.check), .p (.slice none 0 0), .p (.int .i64 r.check)] [4, 5] (by kernel_rfl) (fun _ => by kernel_rfl) (by kernel_rfl : pick _ _ = some [(4, .slice none 0 0), (5, .int .i64 r.check)]) (trivial) ?_
    refine RP_pick [4, 5] (by kernel_rfl : pick _ _ = some [(4, .slice none 0 0), (5, .int .i64 r.check)]) ?_
    refine RP_nil ?_
    refine n_then ?_
    refine W_ret ?_
    refine r_then ?_
    have hof : r.of L = [] := by unfold Rng.of; rw [c13_8]; rfl
    refine ret_of (P := Tryd.prog) (fn := Tryd.f87) (m := [(4, .slice none 0 0), (5, .int .i64 r.check)]) (w := w5) (res2 rfl (rv_tmp rfl) (rv_tmp rfl)) ?_
    -- return 0: .slice none 0 0, .int .i64 r.check
    exact ⟨none, 0, by rw [hof]; rfl, by rw [hof]; exact .inl rfl, st6.ext⟩
  ·
    refine W_skip ?_
    refine n_then ?_
    refine W_seq ?_
    refine W_region ?_
    refine RP_seg 1 [.p (.slice none 0 0)] [0, 3, 7] (by kernel_rfl) (fun _ => by kernel_rfl) (by kernel_rfl : pick _ _ = some [(0, .pointer (some ⟨gd, 0, none⟩)), (3, .pointer (some ⟨g4, 0, none⟩)), (7, .slice none 0 0)]) (trivial) ?_
    refine RP_pick [0, 3, 7] (by kernel_rfl : pick _ _ = some [(0, .pointer (some ⟨gd, 0, none⟩)), (3, .pointer (some ⟨g4, 0, none⟩)), (7, .slice none 0 0)]) ?_
    refine RP_nil ?_
    refine n_then ?_
    refine W_seq ?_
    refine W_seq ?_
    refine W_region ?_
    refine RP_seg 6 [.p (.pointer (some ⟨gd, 0, none⟩)), .p (.pointer (some ⟨gd, 0, none⟩)), .p (.pointer (some ⟨gd, 2, none⟩)), .l 22 (.pointer (some ⟨gd, 2, none⟩)) (.slice b L.length c), .p (.int .i64 ((L.length : Nat) : Int)), .p (.int .i64 0)] [3, 7, 18, 19, 20] (by kernel_rfl) (fun _ => by kernel_rfl) (by kernel_rfl : pick _ _ = some [(3, .pointer (some ⟨g4, 0, none⟩)), (7, .slice none 0 0), (18, .slice b L.length c), (19, .int .i64 ((L.length : Nat) : Int)), (20, .int .i64 0)]) ⟨ld1b (hb.ext st6.ext List.not_mem_nil) nagg_22 rfl, trivial⟩ ?_
    refine RP_pick [3, 7, 18, 19, 20] (by kernel_rfl : pick _ _ = some [(3, .pointer (some ⟨g4, 0, none⟩)), (7, .slice none 0 0), (18, .slice b L.length c), (19, .int .i64 ((L.length : Nat) : Int)), (20, .int .i64 0)]) ?_
    refine RP_nil ?_
    refine n_then ?_
    refine W_block ?_
    refine W_loop (fun k_ m_ w_ => ∃ (i : Nat) (b2 : Option Addr) (c2 : Nat) (O : List Ent), L.length - i = k_ ∧ m_ = [(3, .pointer (some ⟨g4, 0, none⟩)), (7, .slice b2 O.length c2), (18, .slice b L.length c), (19, .int .i64 ((L.length : Nat) : Int)), (20, .int .i64 ((i : Nat) : Int))] ∧ St [] w w_ [(g4, 24, [.string r.lo, .string r.hi, .bool r.op])] ∧ i ≤ L.length ∧ Acc w [] w_ 61 5 (.slice b2 O.length c2) O.length (entCells O) ∧ O = ((L.take i).filter (fun e => r.holds e.key)) ∧ O.length ≤ i) ⟨0, none, 0, [], rfl, rfl, st6, Nat.zero_le _, Acc.nil _ _ _ _ _, rfl, Nat.le_refl _⟩ ?_
    rintro _ _ w10 ⟨i, b2, c2, O, rfl, rfl, st9, hil, hac, hO, hOi⟩
    refine W_seq ?_
    refine W_region ?_
    refine RP_seg 1 [.p (.bool (decide (((i : Nat) : Int) < ((L.length : Nat) : Int))))] [3, 7, 18, 19, 20, 21] (by kernel_rfl) (fun _ => by kernel_rfl) (by kernel_rfl : pick _ _ = some [(3, .pointer (some ⟨g4, 0, none⟩)), (7, .slice b2 O.length c2), (18, .slice b L.length c), (19, .int .i64 ((L.length : Nat) : Int)), (20, .int .i64 ((i : Nat) : Int)), (21, .bool (decide (((i : Nat) : Int) < ((L.length : Nat) : Int))))]) (trivial) ?_
    refine RP_pick [3, 7, 18, 19, 20, 21] (by kernel_rfl : pick _ _ = some [(3, .pointer (some ⟨g4, 0, none⟩)), (7, .slice b2 O.length c2), (18, .slice b L.length c), (19, .int .i64 ((L.length : Nat) : Int)), (20, .int .i64 ((i : Nat) : Int)), (21, .bool (decide (((i : Nat) : Int) < ((L.length : Nat) : Int))))]) ?_
    refine RP_nil ?_
    refine n_then ?_
    refine W_seq ?_
    refine W_cond rfl (fun c21_11 => ?_) (fun c21_11 => ?_)
    ·
      have c21_11p := of_decide_eq_true c21_11
      refine W_skip ?_
      refine n_then ?_
      refine W_seq ?_
      refine W_block ?_
      refine W_seq ?_
      have hlt : i < L.length := by omega
      obtain ⟨e, he⟩ : ∃ e, L[i]? = some e := ⟨L[i], by simp [hlt]⟩
      have hbs := hin.some_ (by rw [entCells_len]; omega)
      refine W_region ?_
      refine RP_q rfl (v := .pointer (some ⟨(sp b), so b + i * 5, none⟩)) (ev_indexI idxEnt rfl rfl hbs hlt) ?_
      have hol := ownsRow.lt hac.own
      refine RP_seg 1 [.l 61 (.pointer (some ⟨(sp b), so b + i * 5, none⟩)) (.agg #[.string e.key, .int .i64 e.c, .int .i64 e.n, .string e.val, .bool e.dead])] [3, 7, 18, 19, 20, 23] (by kernel_rfl) (fun _ => by kernel_rfl) (by kernel_rfl : pick _ _ = some [(3, .pointer (some ⟨g4, 0, none⟩)), (7, .slice b2 O.length c2), (18, .slice b L.length c), (19, .int .i64 ((L.length : Nat) : Int)), (20, .int .i64 ((i : Nat) : Int)), (23, .agg #[.string e.key, .int .i64 e.c, .int .i64 e.n, .string e.val, .bool e.dead])]) ⟨InS.loadN agg_61 (hin.ext0 st9.ext) (entCells_at he) rfl (by decide), trivial⟩ ?_
      refine RP_e rfl (ef_alloc st9 zero_61 rfl) ?_
      rintro _ w12 ⟨g9, rfl, hg9, hg9', st13, hx14⟩
      replace st13 : St [] w w12 [(g9, 61, [.string (⟨#[]⟩ : ByteArray), .int .i64 0, .int .i64 0, .string (⟨#[]⟩ : ByteArray), .bool false]), (g4, 24, [.string r.lo, .string r.hi, .bool r.op])] := st13
      replace hac := hac.ext hx14 (by simp)
      refine RP_e rfl (ef_store st13 rfl rfl rfl size_61 0 rfl rfl rfl rfl (.inr hg9)) ?_
      rintro _ w15 ⟨rfl, st16, hx17⟩
      replace st16 : St [] w w15 [(g9, 61, [.string e.key, .int .i64 e.c, .int .i64 e.n, .string e.val, .bool e.dead]), (g4, 24, [.string r.lo, .string r.hi, .bool r.op])] := st16
      replace hac := hac.ext hx17 (fun q hq hm => by simp only [List.mem_singleton] at hm; have := (hol q hq).1; omega)
      refine RP_pick [3, 7, 9, 18, 19, 20] (by kernel_rfl : pick _ _ = some [(3, .pointer (some ⟨g4, 0, none⟩)), (7, .slice b2 O.length c2), (9, .pointer (some ⟨g9, 0, none⟩)), (18, .slice b L.length c), (19, .int .i64 ((L.length : Nat) : Int)), (20, .int .i64 ((i : Nat) : Int))]) ?_
      refine RP_nil ?_
      refine n_then ?_
      refine W_seq ?_
      refine W_region ?_
      refine RP_seg 3 [.l 24 (.pointer (some ⟨g4, 0, none⟩)) (.agg #[.string r.lo, .string r.hi, .bool r.op]), .p (.pointer (some ⟨g9, 0, none⟩)), .l 9 (.pointer (some ⟨g9, 0, none⟩)) (.string e.key)] [3, 7, 9, 18, 19, 20, 24, 26] (by kernel_rfl) (fun _ => by kernel_rfl) (by kernel_rfl : pick _ _ = some [(3, .pointer (some ⟨g4, 0, none⟩)), (7, .slice b2 O.length c2), (9, .pointer (some ⟨g9, 0, none⟩)), (18, .slice b L.length c), (19, .int .i64 ((L.length : Nat) : Int)), (20, .int .i64 ((i : Nat) : Int)), (24, .agg #[.string r.lo, .string r.hi, .bool r.op]), (26, .string e.key)]) ⟨ldN st16 agg_24 1 rfl rfl rfl, ld1 st16 nagg_9 0 rfl rfl, trivial⟩ ?_
      refine RP_e rfl (ef_call (k := 50) (args := [.agg #[.string r.lo, .string r.hi, .bool r.op], .string e.key]) (ref02holds_cr r e.key _) body_50 (by kernel_rfl)) ?_
      rintro _ w18 ⟨_, rfl, rfl, hx20⟩
      have st19 := st16.call0 hx20
      replace hac := hac.ext hx20 (by simp)
      refine RP_pick [3, 7, 9, 18, 19, 20, 27] (by kernel_rfl : pick _ _ = some [(3, .pointer (some ⟨g4, 0, none⟩)), (7, .slice b2 O.length c2), (9, .pointer (some ⟨g9, 0, none⟩)), (18, .slice b L.length c), (19, .int .i64 ((L.length : Nat) : Int)), (20, .int .i64 ((i : Nat) : Int)), (27, .bool (r.holds e.key))]) ?_
      refine RP_nil ?_
      refine n_then ?_
      refine W_cond rfl (fun c27_21 => ?_) (fun c27_21 => ?_)
      ·
        refine W_region ?_
        refine RP_seg 2 [.p (.slice b2 O.length c2), .l 61 (.pointer (some ⟨g9, 0, none⟩)) (.agg #[.string e.key, .int .i64 e.c, .int .i64 e.n, .string e.val, .bool e.dead])] [3, 18, 19, 20, 28, 29] (by kernel_rfl) (fun _ => by kernel_rfl) (by kernel_rfl : pick _ _ = some [(3, .pointer (some ⟨g4, 0, none⟩)), (18, .slice b L.length c), (19, .int .i64 ((L.length : Nat) : Int)), (20, .int .i64 ((i : Nat) : Int)), (28, .slice b2 O.length c2), (29, .agg #[.string e.key, .int .i64 e.c, .int .i64 e.n, .string e.val, .bool e.dead])]) ⟨ldN st19 agg_61 0 rfl rfl rfl, trivial⟩ ?_
        refine RP_e rfl (ef_new (t := 61) (cs := [.string e.key, .int .i64 e.c, .int .i64 e.n, .string e.val, .bool e.dead]) (fun g => .slice (some ⟨g, 0, none⟩) 1 1) st19 rfl rfl (fun _ => by kernel_rfl)) ?_
        rintro _ w22 ⟨g25, rfl, hg25, hg25', st23, hx24⟩
        replace hac := hac.ext hx24 (by simp)
        refine RP_e rfl (ef_appendI appEnt (st23.sub (M' := [(g9, 61, [.string e.key, .int .i64 e.c, .int .i64 e.n, .string e.val, .bool e.dead]), (g4, 24, [.string r.lo, .string r.hi, .bool r.op])]) [] (List.sublist_cons_self _ _)) hac rfl rfl (InS.of_blk (st23.get 0 rfl)) rfl rfl (by simp only [maxLen]; omega) (by omega) (Acc.apart1 hac (st23.sub [] (List.sublist_cons_self _ _)) (fun q hq hm => by simp only [List.mem_singleton] at hm; have := (hol q hq).1; omega) rfl)) ?_
        rintro _ w26 ⟨v1, rfl, hac, st27, hx28⟩
        obtain ⟨b3, c3, rfl⟩ := ownsRow.form' hac.own
        refine RP_seg 1 [.p (.slice b3 (O.length + 1) c3)] [3, 7, 18, 19, 20] (by kernel_rfl) (fun _ => by kernel_rfl) (by kernel_rfl : pick _ _ = some [(3, .pointer (some ⟨g4, 0, none⟩)), (7, .slice b3 (O.length + 1) c3), (18, .slice b L.length c), (19, .int .i64 ((L.length : Nat) : Int)), (20, .int .i64 ((i : Nat) : Int))]) (trivial) ?_
        refine RP_pick [3, 7, 18, 19, 20] (by kernel_rfl : pick _ _ = some [(3, .pointer (some ⟨g4, 0, none⟩)), (7, .slice b3 (O.length + 1) c3), (18, .slice b L.length c), (19, .int .i64 ((L.length : Nat) : Int)), (20, .int .i64 ((i : Nat) : Int))]) ?_
        refine RP_nil ?_
        refine n_block ?_
        refine n_then ?_
        refine W_region ?_
        refine RP_seg 2 [.p (.int .i64 (IntKind.i64.wrap (((i : Nat) : Int) + 1))), .p (.int .i64 (IntKind.i64.wrap (((i : Nat) : Int) + 1)))] [3, 7, 18, 19, 20] (by kernel_rfl) (fun _ => by kernel_rfl) (by kernel_rfl : pick _ _ = some [(3, .pointer (some ⟨g4, 0, none⟩)), (7, .slice b3 (O.length + 1) c3), (18, .slice b L.length c), (19, .int .i64 ((L.length : Nat) : Int)), (20, .int .i64 (IntKind.i64.wrap (((i : Nat) : Int) + 1)))]) (trivial) ?_
        refine RP_pick [3, 7, 18, 19, 20] (by kernel_rfl : pick _ _ = some [(3, .pointer (some ⟨g4, 0, none⟩)), (7, .slice b3 (O.length + 1) c3), (18, .slice b L.length c), (19, .int .i64 ((L.length : Nat) : Int)), (20, .int .i64 (IntKind.i64.wrap (((i : Nat) : Int) + 1)))]) ?_
        refine RP_nil ?_
        -- back 0: [(3, .pointer (some ⟨g4, 0, none⟩)), (7, .slice b3 (O.length + 1) c3), (18, .slice b L.length c), (19, .int .i64 ((L.length : Nat) : Int)), (20, .int .i64 (IntKind.i64.wrap (((i : Nat) : Int) + 1)))]
        exact ⟨_, by omega, (i + 1), b3, c3, (O ++ [e]), rfl, by rw [inc_w (n := i) (by omega), List.length_append, List.length_singleton], st27.sub [] (List.sublist_cons_self _ _), by omega, by simpa [entCells, Ent.cells] using hac, by rw [filter_take he, c27_21, ← hO]; rfl, by simp only [List.length_append, List.length_singleton]; omega⟩
      ·
        refine W_skip ?_
        refine n_block ?_
        refine n_then ?_
        refine W_region ?_
        refine RP_seg 2 [.p (.int .i64 (IntKind.i64.wrap (((i : Nat) : Int) + 1))), .p (.int .i64 (IntKind.i64.wrap (((i : Nat) : Int) + 1)))] [3, 7, 18, 19, 20] (by kernel_rfl) (fun _ => by kernel_rfl) (by kernel_rfl : pick _ _ = some [(3, .pointer (some ⟨g4, 0, none⟩)), (7, .slice b2 O.length c2), (18, .slice b L.length c), (19, .int .i64 ((L.length : Nat) : Int)), (20, .int .i64 (IntKind.i64.wrap (((i : Nat) : Int) + 1)))]) (trivial) ?_
        refine RP_pick [3, 7, 18, 19, 20] (by kernel_rfl : pick _ _ = some [(3, .pointer (some ⟨g4, 0, none⟩)), (7, .slice b2 O.length c2), (18, .slice b L.length c), (19, .int .i64 ((L.length : Nat) : Int)), (20, .int .i64 (IntKind.i64.wrap (((i : Nat) : Int) + 1)))]) ?_
        refine RP_nil ?_
        -- back 1: [(3, .pointer (some ⟨g4, 0, none⟩)), (7, .slice b2 O.length c2), (18, .slice b L.length c), (19, .int .i64 ((L.length : Nat) : Int)), (20, .int .i64 (IntKind.i64.wrap (((i : Nat) : Int) + 1)))]
        exact ⟨_, by omega, (i + 1), b2, c2, O, rfl, by rw [inc_w (n := i) (by omega)], st19.sub [] (List.sublist_cons_self _ _), by omega, hac, by rw [filter_take he, c27_21, ← hO]; simp, by omega⟩
    ·
      have c21_11p := of_decide_eq_false c21_11
      refine W_exit ?_
      refine e_then <| e_loop <| e_here ?_
      refine n_then ?_
      refine W_seq ?_
      refine W_region ?_
      refine RP_seg 3 [.p (.slice b2 O.length c2), .p (.slice b2 O.length c2), .p (.int .i64 0)] [4, 5] (by kernel_rfl) (fun _ => by kernel_rfl) (by kernel_rfl : pick _ _ = some [(4, .slice b2 O.length c2), (5, .int .i64 0)]) (trivial) ?_
      refine RP_pick [4, 5] (by kernel_rfl : pick _ _ = some [(4, .slice b2 O.length c2), (5, .int .i64 0)]) ?_
      refine RP_nil ?_
      refine n_then ?_
      refine W_ret ?_
      have hiL : i = L.length := by omega
      have hof : r.of L = O := by unfold Rng.of; rw [c13_8, hO, hiL, List.take_length]; rfl
      have hz : r.check = 0 := by simpa using c13_8
      refine ret_of (P := Tryd.prog) (fn := Tryd.f87) (m := [(4, .slice b2 O.length c2), (5, .int .i64 0)]) (w := w10) (res2 rfl (rv_tmp rfl) (rv_tmp rfl)) ?_
      -- return 1: .slice b2 O.length c2, .int .i64 0
      exact ⟨b2, c2, by rw [hof, hz], by rw [hof]; exact InS.of_own hac.own, st9.ext⟩
theorem ref08fold_cr {w : World} {gd : Nat} {node clock : Int} {b : Option Addr} {c : Nat} {L : List Ent} (r : Rng) (hD : Doc w gd node clock b c L) (hL : L.length ≤ 100000) (hk : ∀ e ∈ L, e.key.size < 10000000) :
    CR Tryd.prog 44 [.pointer (some ⟨gd, 0, none⟩), r.v] w fun v w' => v = .tuple #[(allTal (r.of L)).v, .int .i64 r.check] ∧ Ext [] w w' := by
  have st := St.init w []
  have hof : ∀ e ∈ r.of L, e ∈ L := by
    intro e he
    unfold Rng.of at he
    cases hc : (r.check != 0) <;> rw [hc] at he
    · exact (List.mem_filter.1 he).1
    · cases he
  have hol : (r.of L).length ≤ L.length := by
    unfold Rng.of
    cases (r.check != 0)
    · exact List.length_filter_le _ _
    · exact Nat.zero_le _
  refine CR_enter Tryd.func44 rfl Tryd.ntmps44 rfl ?_
  refine W_seq ?_
  refine W_region ?_
  refine RP_e rfl (ef_box st rfl rfl) ?_
  rintro _ w1 ⟨g4, rfl, hg4, hg4', st2, hx3⟩
  replace st2 : St [] w w1 [(g4, 24, [.string r.lo, .string r.hi, .bool r.op])] := st2
  refine RP_e rfl (ef_alloc st2 zero_32 rfl) ?_
  rintro _ w5 ⟨g8, rfl, hg8, hg8', st6, hx7⟩
  replace st6 : St [] w w5 [(g8, 32, [.int .i64 0, .int .u64 0, .int .u64 0]), (g4, 24, [.string r.lo, .string r.hi, .bool r.op])] := st6
  refine RP_seg 1 [.p (.int .i64 0)] [0, 3, 4] (by kernel_rfl) (fun _ => by kernel_rfl) (by kernel_rfl : pick _ _ = some [(0, .pointer (some ⟨gd, 0, none⟩)), (3, .pointer (some ⟨g4, 0, none⟩)), (4, .pointer (some ⟨g8, 0, none⟩))]) (trivial) ?_
  refine RP_pick [0, 3, 4] (by kernel_rfl : pick _ _ = some [(0, .pointer (some ⟨gd, 0, none⟩)), (3, .pointer (some ⟨g4, 0, none⟩)), (4, .pointer (some ⟨g8, 0, none⟩))]) ?_
  refine RP_nil ?_
  refine n_then ?_
  refine W_seq ?_
  refine W_region ?_
  refine RP_seg 2 [.p (.pointer (some ⟨gd, 0, none⟩)), .l 24 (.pointer (some ⟨g4, 0, none⟩)) (.agg #[.string r.lo, .string r.hi, .bool r.op])] [4, 9, 10] (by kernel_rfl) (fun _ => by kernel_rfl) (by kernel_rfl : pick _ _ = some [(4, .pointer (some ⟨g8, 0, none⟩)), (9, .pointer (some ⟨gd, 0, none⟩)), (10, .agg #[.string r.lo, .string r.hi, .bool r.op])]) ⟨ldN st6 agg_24 1 rfl rfl rfl, trivial⟩ ?_
  refine RP_e rfl (ef_call (k := 87) (args := [.pointer (some ⟨gd, 0, none⟩), .agg #[.string r.lo, .string r.hi, .bool r.op]]) (ref08all_cr r (hD.ext st6.ext List.not_mem_nil (fun _ _ => List.not_mem_nil)) (by omega)) body_87 (by kernel_rfl)) ?_
  rintro _ w9 ⟨_, rfl, b2, c2, rfl, hin, hx11⟩
  have st10 := st6.call0 hx11
  refine RP_seg 5 [.p (.tuple #[.slice b2 ((r.of L).length) c2, .int .i64 r.check]), .p (.slice b2 ((r.of L).length) c2), .p (.int .i64 r.check), .p (.slice b2 ((r.of L).length) c2), .p (.int .i64 r.check)] [4, 6, 7] (by kernel_rfl) (fun _ => by kernel_rfl) (by kernel_rfl : pick _ _ = some [(4, .pointer (some ⟨g8, 0, none⟩)), (6, .slice b2 ((r.of L).length) c2), (7, .int .i64 r.check)]) (trivial) ?_
  refine RP_pick [4, 6, 7] (by kernel_rfl : pick _ _ = some [(4, .pointer (some ⟨g8, 0, none⟩)), (6, .slice b2 ((r.of L).length) c2), (7, .int .i64 r.check)]) ?_
  refine RP_nil ?_
  refine n_then ?_
  refine W_seq ?_
  refine W_region ?_
  refine RP_seg 1 [.p (.slice b2 ((r.of L).length) c2)] [4, 7, 14] (by kernel_rfl) (fun _ => by kernel_rfl) (by kernel_rfl : pick _ _ = some [(4, .pointer (some ⟨g8, 0, none⟩)), (7, .int .i64 r.check), (14, .slice b2 ((r.of L).length) c2)]) (trivial) ?_
  refine RP_e rfl (ef_call (k := 104) (args := [.slice b2 ((r.of L).length) c2]) (ref05all_cr (r.of L) hin (fun e he => hk e (hof e he)) (by omega)) body_104 (by kernel_rfl)) ?_
  rintro _ w12 ⟨_, rfl, rfl, hx14⟩
  have st13 := st10.call0 hx14
  refine RP_seg 1 [.p (.int .i64 r.check)] [4, 15, 16] (by kernel_rfl) (fun _ => by kernel_rfl) (by kernel_rfl : pick _ _ = some [(4, .pointer (some ⟨g8, 0, none⟩)), (15, .agg #[.int .i64 ((allTal (r.of L)).k), .int .u64 ((allTal (r.of L)).a), .int .u64 ((allTal (r.of L)).b)]), (16, .int .i64 r.check)]) (trivial) ?_
  refine RP_e rfl (ef_store st13 rfl rfl rfl size_32 0 rfl rfl rfl rfl (.inr hg8)) ?_
  rintro _ w15 ⟨rfl, st16, hx17⟩
  replace st16 : St [] w w15 [(g8, 32, [.int .i64 ((allTal (r.of L)).k), .int .u64 ((allTal (r.of L)).a), .int .u64 ((allTal (r.of L)).b)]), (g4, 24, [.string r.lo, .string r.hi, .bool r.op])] := st16
  refine RP_seg 1 [.p (.int .i64 r.check)] [4, 5] (by kernel_rfl) (fun _ => by kernel_rfl) (by kernel_rfl : pick _ _ = some [(4, .pointer (some ⟨g8, 0, none⟩)), (5, .int .i64 r.check)]) (trivial) ?_
  refine RP_pick [4, 5] (by kernel_rfl : pick _ _ = some [(4, .pointer (some ⟨g8, 0, none⟩)), (5, .int .i64 r.check)]) ?_
  refine RP_nil ?_
  refine n_then ?_
  refine W_ret ?_
  refine ret_of (P := Tryd.prog) (fn := Tryd.f44) (m := [(4, .pointer (some ⟨g8, 0, none⟩)), (5, .int .i64 r.check)]) (w := w15) (res2 rfl (rv_cell rfl (by simpa [Instr.loadAt, Instr.sureAddr] using (ldN st16 agg_32 0 rfl rfl rfl))) (rv_tmp rfl)) ?_
  -- return 0: .agg #[.int .i64 ((allTal (r.of L)).k), .int .u64 ((allTal (r.of L)).a), .int .u64 ((allTal (r.of L)).b)], .int .i64 r.check
  exact ⟨rfl, st16.ext⟩
def docP (L : List Ent) (r : Rng) : Prt := cond (printErr r != 0) Prt.zero ⟨1, r, allTal (r.of L), [], none, 0⟩
theorem ref13print_cr {w : World} {gd : Nat} {node clock : Int} {b : Option Addr} {c : Nat} {L : List Ent} (r : Rng) (hD : Doc w gd node clock b c L) (hL : L.length ≤ 100000) (hk : ∀ e ∈ L, e.key.size < 10000000) :
    CR Tryd.prog 13 [.pointer (some ⟨gd, 0, none⟩), r.v] w fun v w' => v = .tuple #[(docP L r).v, .int .i64 (printErr r)] ∧ Ext [] w w' := by
  have st := St.init w []
  refine CR_enter Tryd.func13 rfl Tryd.ntmps13 rfl ?_
  refine W_seq ?_
  refine W_region ?_
  refine RP_e rfl (ef_box st rfl rfl) ?_
  rintro _ w1 ⟨g4, rfl, hg4, hg4', st2, hx3⟩
  replace st2 : St [] w w1 [(g4, 24, [.string r.lo, .string r.hi, .bool r.op])] := st2
  refine RP_e rfl (ef_alloc st2 zero_34 rfl) ?_
  rintro _ w5 ⟨g8, rfl, hg8, hg8', st6, hx7⟩
  replace st6 : St [] w w5 [(g8, 34, [.int .i64 0, .string (⟨#[]⟩ : ByteArray), .string (⟨#[]⟩ : ByteArray), .bool false, .int .i64 0, .int .u64 0, .int .u64 0, .slice none 0 0]), (g4, 24, [.string r.lo, .string r.hi, .bool r.op])] := st6
  refine RP_seg 1 [.p (.int .i64 0)] [0, 3, 4] (by kernel_rfl) (fun _ => by kernel_rfl) (by kernel_rfl : pick _ _ = some [(0, .pointer (some ⟨gd, 0, none⟩)), (3, .pointer (some ⟨g4, 0, none⟩)), (4, .pointer (some ⟨g8, 0, none⟩))]) (trivial) ?_
  refine RP_pick [0, 3, 4] (by kernel_rfl : pick _ _ = some [(0, .pointer (some ⟨gd, 0, none⟩)), (3, .pointer (some ⟨g4, 0, none⟩)), (4, .pointer (some ⟨g8, 0, none⟩))]) ?_
  refine RP_nil ?_
  refine n_then ?_
  refine W_seq ?_
  refine W_region ?_
  refine RP_seg 1 [.l 24 (.pointer (some ⟨g4, 0, none⟩)) (.agg #[.string r.lo, .string r.hi, .bool r.op])] [0, 3, 4, 9] (by kernel_rfl) (fun _ => by kernel_rfl) (by kernel_rfl : pick _ _ = some [(0, .pointer (some ⟨gd, 0, none⟩)), (3, .pointer (some ⟨g4, 0, none⟩)), (4, .pointer (some ⟨g8, 0, none⟩)), (9, .agg #[.string r.lo, .string r.hi, .bool r.op])]) ⟨ldN st6 agg_24 1 rfl rfl rfl, trivial⟩ ?_
  refine RP_e rfl (ef_call (k := 43) (args := [.agg #[.string r.lo, .string r.hi, .bool r.op]]) (ref02_cr r _) body_43 (by kernel_rfl)) ?_
  rintro _ w9 ⟨_, rfl, rfl, hx11⟩
  have st10 := st6.call0 hx11
  refine RP_seg 1 [.p (.int .i64 r.check)] [0, 3, 4, 6] (by kernel_rfl) (fun _ => by kernel_rfl) (by kernel_rfl : pick _ _ = some [(0, .pointer (some ⟨gd, 0, none⟩)), (3, .pointer (some ⟨g4, 0, none⟩)), (4, .pointer (some ⟨g8, 0, none⟩)), (6, .int .i64 r.check)]) (trivial) ?_
  refine RP_pick [0, 3, 4, 6] (by kernel_rfl : pick _ _ = some [(0, .pointer (some ⟨gd, 0, none⟩)), (3, .pointer (some ⟨g4, 0, none⟩)), (4, .pointer (some ⟨g8, 0, none⟩)), (6, .int .i64 r.check)]) ?_
  refine RP_nil ?_
  refine n_then ?_
  refine W_seq ?_
  refine W_seq ?_
  refine W_region ?_
  refine RP_seg 2 [.p (.int .i64 r.check), .p (.bool (r.check != 0))] [0, 3, 4, 6, 12] (by kernel_rfl) (fun _ => by kernel_rfl) (by kernel_rfl : pick _ _ = some [(0, .pointer (some ⟨gd, 0, none⟩)), (3, .pointer (some ⟨g4, 0, none⟩)), (4, .pointer (some ⟨g8, 0, none⟩)), (6, .int .i64 r.check), (12, .bool (r.check != 0))]) (trivial) ?_
  refine RP_pick [0, 3, 4, 6, 12] (by kernel_rfl : pick _ _ = some [(0, .pointer (some ⟨gd, 0, none⟩)), (3, .pointer (some ⟨g4, 0, none⟩)), (4, .pointer (some ⟨g8, 0, none⟩)), (6, .int .i64 r.check), (12, .bool (r.check != 0))]) ?_
  refine RP_nil ?_
  refine n_then ?_
  refine W_cond rfl (fun c12_12 => ?_) (fun c12_12 => ?_)
  ·
    refine W_seq ?_
    refine W_region ?_
    refine RP_seg 2 [.p (.agg #[.int .i64 0, .string (⟨#[]⟩ : ByteArray), .string (⟨#[]⟩ : ByteArray), .bool false, .int .i64 0, .int .u64 0, .int .u64 0, .slice none 0 0]), .p (.int .i64 r.check)] [4, 13, 14] (by kernel_rfl) (fun _ => by kernel_rfl) (by kernel_rfl : pick _ _ = some [(4, .pointer (some ⟨g8, 0, none⟩)), (13, .agg #[.int .i64 0, .string (⟨#[]⟩ : ByteArray), .string (⟨#[]⟩ : ByteArray), .bool false, .int .i64 0, .int .u64 0, .int .u64 0, .slice none 0 0]), (14, .int .i64 r.check)]) (trivial) ?_
    refine RP_e rfl (ef_store st10 rfl rfl rfl size_34 0 rfl rfl rfl rfl (.inr hg8)) ?_
    rintro _ w13 ⟨rfl, st14, hx15⟩
    replace st14 : St [] w w13 [(g8, 34, [.int .i64 0, .string (⟨#[]⟩ : ByteArray), .string (⟨#[]⟩ : ByteArray), .bool false, .int .i64 0, .int .u64 0, .int .u64 0, .slice none 0 0]), (g4, 24, [.string r.lo, .string r.hi, .bool r.op])] := st14
    refine RP_seg 1 [.p (.int .i64 r.check)] [4, 5] (by kernel_rfl) (fun _ => by kernel_rfl) (by kernel_rfl : pick _ _ = some [(4, .pointer (some ⟨g8, 0, none⟩)), (5, .int .i64 r.check)]) (trivial) ?_
    refine RP_pick [4, 5] (by kernel_rfl : pick _ _ = some [(4, .pointer (some ⟨g8, 0, none⟩)), (5, .int .i64 r.check)]) ?_
    refine RP_nil ?_
    refine n_then ?_
    refine W_ret ?_
    refine r_then ?_
    have hpe : printErr r = r.check := by unfold printErr Rng.empty; (try rw [c12_12]); rfl
    refine ret_of (P := Tryd.prog) (fn := Tryd.f13) (m := [(4, .pointer (some ⟨g8, 0, none⟩)), (5, .int .i64 r.check)]) (w := w13) (res2 rfl (rv_cell rfl (by simpa [Instr.loadAt, Instr.sureAddr] using (ldN st14 agg_34 0 rfl rfl rfl))) (rv_tmp rfl)) ?_
    -- return 0: .agg #[.int .i64 0, .string (⟨#[]⟩ : ByteArray), .string (⟨#[]⟩ : ByteArray), .bool false, .int .i64 0, .int .u64 0, .int .u64 0, .slice none 0 0], .int .i64 r.check
    exact ⟨by unfold docP; rw [hpe, show (r.check != 0) = true from c12_12]; rfl, st14.ext⟩
  ·
    refine W_skip ?_
    refine n_then ?_
    refine W_seq ?_
    refine W_seq ?_
    refine W_region ?_
    refine RP_seg 4 [.p (.pointer (some ⟨g4, 2, none⟩)), .l 4 (.pointer (some ⟨g4, 2, none⟩)) (.bool r.op), .p (.bool (!r.op)), .p (.bool (!r.op))] [0, 3, 4, 18] (by kernel_rfl) (fun _ => by kernel_rfl) (by kernel_rfl : pick _ _ = some [(0, .pointer (some ⟨gd, 0, none⟩)), (3, .pointer (some ⟨g4, 0, none⟩)), (4, .pointer (some ⟨g8, 0, none⟩)), (18, .bool (!r.op))]) ⟨ld1 st10 nagg_4 1 rfl rfl, trivial⟩ ?_
    rcases Bool.eq_false_or_eq_true (!r.op) with c18_16 | c18_16
    ·
      refine RP_at (m' := [(0, .pointer (some ⟨gd, 0, none⟩)), (3, .pointer (some ⟨g4, 0, none⟩)), (4, .pointer (some ⟨g8, 0, none⟩)), (18, .bool true)]) (by rw [c18_16]) ?_
      refine RP_seg 6 [.p (.pointer (some ⟨g4, 0, none⟩)), .l 9 (.pointer (some ⟨g4, 0, none⟩)) (.string r.lo), .p (.pointer (some ⟨g4, 1, none⟩)), .l 9 (.pointer (some ⟨g4, 1, none⟩)) (.string r.hi), .p (.bool ((r.lo).toList == (r.hi).toList)), .p (.bool ((r.lo).toList == (r.hi).toList))] [0, 3, 4, 24] (by kernel_rfl) (fun _ => by kernel_rfl) (by kernel_rfl : pick _ _ = some [(0, .pointer (some ⟨gd, 0, none⟩)), (3, .pointer (some ⟨g4, 0, none⟩)), (4, .pointer (some ⟨g8, 0, none⟩)), (24, .bool ((r.lo).toList == (r.hi).toList))]) ⟨ld1 st10 nagg_9 1 rfl rfl, ld1 st10 nagg_9 1 rfl rfl, trivial⟩ ?_
      refine RP_pick [0, 3, 4, 24] (by kernel_rfl : pick _ _ = some [(0, .pointer (some ⟨gd, 0, none⟩)), (3, .pointer (some ⟨g4, 0, none⟩)), (4, .pointer (some ⟨g8, 0, none⟩)), (24, .bool ((r.lo).toList == (r.hi).toList))]) ?_
      refine RP_nil ?_
      refine n_then ?_
      refine W_cond rfl (fun c24_17 => ?_) (fun c24_17 => ?_)
      ·
        refine W_seq ?_
        refine W_region ?_
        refine RP_seg 1 [.p (.agg #[.int .i64 0, .string (⟨#[]⟩ : ByteArray), .string (⟨#[]⟩ : ByteArray), .bool false, .int .i64 0, .int .u64 0, .int .u64 0, .slice none 0 0])] [4, 25] (by kernel_rfl) (fun _ => by kernel_rfl) (by kernel_rfl : pick _ _ = some [(4, .pointer (some ⟨g8, 0, none⟩)), (25, .agg #[.int .i64 0, .string (⟨#[]⟩ : ByteArray), .string (⟨#[]⟩ : ByteArray), .bool false, .int .i64 0, .int .u64 0, .int .u64 0, .slice none 0 0])]) (trivial) ?_
        refine RP_e rfl (ef_store st10 rfl rfl rfl size_34 0 rfl rfl rfl rfl (.inr hg8)) ?_
        rintro _ w18 ⟨rfl, st19, hx20⟩
        replace st19 : St [] w w18 [(g8, 34, [.int .i64 0, .string (⟨#[]⟩ : ByteArray), .string (⟨#[]⟩ : ByteArray), .bool false, .int .i64 0, .int .u64 0, .int .u64 0, .slice none 0 0]), (g4, 24, [.string r.lo, .string r.hi, .bool r.op])] := st19
        refine RP_seg 1 [.p (.int .i64 115)] [4, 5] (by kernel_rfl) (fun _ => by kernel_rfl) (by kernel_rfl : pick _ _ = some [(4, .pointer (some ⟨g8, 0, none⟩)), (5, .int .i64 115)]) (trivial) ?_
        refine RP_pick [4, 5] (by kernel_rfl : pick _ _ = some [(4, .pointer (some ⟨g8, 0, none⟩)), (5, .int .i64 115)]) ?_
        refine RP_nil ?_
        refine n_then ?_
        refine W_ret ?_
        refine r_then ?_
        have hpe : printErr r = 115 := by unfold printErr Rng.empty; (try rw [c12_12]); (try rw [c18_16]); (try rw [c24_17]); rfl
        refine ret_of (P := Tryd.prog) (fn := Tryd.f13) (m := [(4, .pointer (some ⟨g8, 0, none⟩)), (5, .int .i64 115)]) (w := w18) (res2 rfl (rv_cell rfl (by simpa [Instr.loadAt, Instr.sureAddr] using (ldN st19 agg_34 0 rfl rfl rfl))) (rv_tmp rfl)) ?_
        -- return 1: .agg #[.int .i64 0, .string (⟨#[]⟩ : ByteArray), .string (⟨#[]⟩ : ByteArray), .bool false, .int .i64 0, .int .u64 0, .int .u64 0, .slice none 0 0], .int .i64 115
        exact ⟨by unfold docP; rw [hpe, show ((115 : Int) != 0) = true from rfl]; rfl, st19.ext⟩
      ·
        refine W_skip ?_
        refine n_then ?_
        refine W_seq ?_
        refine W_region ?_
        refine RP_seg 2 [.p (.pointer (some ⟨gd, 0, none⟩)), .l 24 (.pointer (some ⟨g4, 0, none⟩)) (.agg #[.string r.lo, .string r.hi, .bool r.op])] [3, 4, 27, 28] (by kernel_rfl) (fun _ => by kernel_rfl) (by kernel_rfl : pick _ _ = some [(3, .pointer (some ⟨g4, 0, none⟩)), (4, .pointer (some ⟨g8, 0, none⟩)), (27, .pointer (some ⟨gd, 0, none⟩)), (28, .agg #[.string r.lo, .string r.hi, .bool r.op])]) ⟨ldN st10 agg_24 1 rfl rfl rfl, trivial⟩ ?_
        refine RP_e rfl (ef_call (k := 44) (args := [.pointer (some ⟨gd, 0, none⟩), .agg #[.string r.lo, .string r.hi, .bool r.op]]) (ref08fold_cr r (hD.ext st10.ext List.not_mem_nil (fun _ _ => List.not_mem_nil)) hL hk) body_44 (by kernel_rfl)) ?_
        rintro _ w21 ⟨_, rfl, rfl, hx23⟩
        have st22 := st10.call0 hx23
        refine RP_seg 3 [.p (.tuple #[.agg #[.int .i64 ((allTal (r.of L)).k), .int .u64 ((allTal (r.of L)).a), .int .u64 ((allTal (r.of L)).b)], .int .i64 r.check]), .p (.agg #[.int .i64 ((allTal (r.of L)).k), .int .u64 ((allTal (r.of L)).a), .int .u64 ((allTal (r.of L)).b)]), .p (.int .i64 r.check)] [3, 4, 30, 31] (by kernel_rfl) (fun _ => by kernel_rfl) (by kernel_rfl : pick _ _ = some [(3, .pointer (some ⟨g4, 0, none⟩)), (4, .pointer (some ⟨g8, 0, none⟩)), (30, .agg #[.int .i64 ((allTal (r.of L)).k), .int .u64 ((allTal (r.of L)).a), .int .u64 ((allTal (r.of L)).b)]), (31, .int .i64 r.check)]) (trivial) ?_
        refine RP_e rfl (ef_alloc st22 zero_32 rfl) ?_
        rintro _ w24 ⟨g27, rfl, hg27, hg27', st25, hx26⟩
        replace st25 : St [] w w24 [(g27, 32, [.int .i64 0, .int .u64 0, .int .u64 0]), (g8, 34, [.int .i64 0, .string (⟨#[]⟩ : ByteArray), .string (⟨#[]⟩ : ByteArray), .bool false, .int .i64 0, .int .u64 0, .int .u64 0, .slice none 0 0]), (g4, 24, [.string r.lo, .string r.hi, .bool r.op])] := st25
        refine RP_e rfl (ef_store st25 rfl rfl rfl size_32 0 rfl rfl rfl rfl (.inr hg27)) ?_
        rintro _ w28 ⟨rfl, st29, hx30⟩
        replace st29 : St [] w w28 [(g27, 32, [.int .i64 ((allTal (r.of L)).k), .int .u64 ((allTal (r.of L)).a), .int .u64 ((allTal (r.of L)).b)]), (g8, 34, [.int .i64 0, .string (⟨#[]⟩ : ByteArray), .string (⟨#[]⟩ : ByteArray), .bool false, .int .i64 0, .int .u64 0, .int .u64 0, .slice none 0 0]), (g4, 24, [.string r.lo, .string r.hi, .bool r.op])] := st29
        refine RP_seg 1 [.p (.int .i64 r.check)] [3, 4, 7] (by kernel_rfl) (fun _ => by kernel_rfl) (by kernel_rfl : pick _ _ = some [(3, .pointer (some ⟨g4, 0, none⟩)), (4, .pointer (some ⟨g8, 0, none⟩)), (7, .pointer (some ⟨g27, 0, none⟩))]) (trivial) ?_
        refine RP_pick [3, 4, 7] (by kernel_rfl : pick _ _ = some [(3, .pointer (some ⟨g4, 0, none⟩)), (4, .pointer (some ⟨g8, 0, none⟩)), (7, .pointer (some ⟨g27, 0, none⟩))]) ?_
        refine RP_nil ?_
        refine n_then ?_
        refine W_seq ?_
        refine W_region ?_
        refine RP_seg 3 [.l 24 (.pointer (some ⟨g4, 0, none⟩)) (.agg #[.string r.lo, .string r.hi, .bool r.op]), .l 32 (.pointer (some ⟨g27, 0, none⟩)) (.agg #[.int .i64 ((allTal (r.of L)).k), .int .u64 ((allTal (r.of L)).a), .int .u64 ((allTal (r.of L)).b)]), .p (.agg #[.int .i64 1, .string r.lo, .string r.hi, .bool r.op, .int .i64 ((allTal (r.of L)).k), .int .u64 ((allTal (r.of L)).a), .int .u64 ((allTal (r.of L)).b), .slice none 0 0])] [4, 34] (by kernel_rfl) (fun _ => by kernel_rfl) (by kernel_rfl : pick _ _ = some [(4, .pointer (some ⟨g8, 0, none⟩)), (34, .agg #[.int .i64 1, .string r.lo, .string r.hi, .bool r.op, .int .i64 ((allTal (r.of L)).k), .int .u64 ((allTal (r.of L)).a), .int .u64 ((allTal (r.of L)).b), .slice none 0 0])]) ⟨ldN st29 agg_24 2 rfl rfl rfl, ldN st29 agg_32 0 rfl rfl rfl, trivial⟩ ?_
        refine RP_e rfl (ef_store st29 rfl rfl rfl size_34 1 rfl rfl rfl rfl (.inr hg8)) ?_
        rintro _ w31 ⟨rfl, st32, hx33⟩
        replace st32 : St [] w w31 [(g27, 32, [.int .i64 ((allTal (r.of L)).k), .int .u64 ((allTal (r.of L)).a), .int .u64 ((allTal (r.of L)).b)]), (g8, 34, [.int .i64 1, .string r.lo, .string r.hi, .bool r.op, .int .i64 ((allTal (r.of L)).k), .int .u64 ((allTal (r.of L)).a), .int .u64 ((allTal (r.of L)).b), .slice none 0 0]), (g4, 24, [.string r.lo, .string r.hi, .bool r.op])] := st32
        refine RP_seg 1 [.p (.int .i64 0)] [4, 5] (by kernel_rfl) (fun _ => by kernel_rfl) (by kernel_rfl : pick _ _ = some [(4, .pointer (some ⟨g8, 0, none⟩)), (5, .int .i64 0)]) (trivial) ?_
        refine RP_pick [4, 5] (by kernel_rfl : pick _ _ = some [(4, .pointer (some ⟨g8, 0, none⟩)), (5, .int .i64 0)]) ?_
        refine RP_nil ?_
        refine n_then ?_
        refine W_ret ?_
        have hpe : printErr r = 0 := by unfold printErr Rng.empty; (try rw [c12_12]); (try rw [c18_16]); (try rw [c24_17]); rfl
        refine ret_of (P := Tryd.prog) (fn := Tryd.f13) (m := [(4, .pointer (some ⟨g8, 0, none⟩)), (5, .int .i64 0)]) (w := w31) (res2 rfl (rv_cell rfl (by simpa [Instr.loadAt, Instr.sureAddr] using (ldN st32 agg_34 1 rfl rfl rfl))) (rv_tmp rfl)) ?_
        -- return 2: .agg #[.int .i64 1, .string r.lo, .string r.hi, .bool r.op, .int .i64 ((allTal (r.of L)).k), .int .u64 ((allTal (r.of L)).a), .int .u64 ((allTal (r.of L)).b), .slice none 0 0], .int .i64 0
        exact ⟨by unfold docP; rw [hpe, show ((0 : Int) != 0) = false from rfl]; rfl, st32.ext⟩
    ·
      refine RP_at (m' := [(0, .pointer (some ⟨gd, 0, none⟩)), (3, .pointer (some ⟨g4, 0, none⟩)), (4, .pointer (some ⟨g8, 0, none⟩)), (18, .bool false)]) (by rw [c18_16]) ?_
      refine RP_seg 6 [.no, .no, .no, .no, .no, .p (.bool false)] [0, 3, 4, 24] (by kernel_rfl) (fun _ => by kernel_rfl) (by kernel_rfl : pick _ _ = some [(0, .pointer (some ⟨gd, 0, none⟩)), (3, .pointer (some ⟨g4, 0, none⟩)), (4, .pointer (some ⟨g8, 0, none⟩)), (24, .bool false)]) (trivial) ?_
      refine RP_pick [0, 3, 4, 24] (by kernel_rfl : pick _ _ = some [(0, .pointer (some ⟨gd, 0, none⟩)), (3, .pointer (some ⟨g4, 0, none⟩)), (4, .pointer (some ⟨g8, 0, none⟩)), (24, .bool false)]) ?_
      refine RP_nil ?_
      refine n_then ?_
      refine W_false rfl ?_
      refine W_skip ?_
      refine n_then ?_
      refine W_seq ?_
      refine W_region ?_
      refine RP_seg 2 [.p (.pointer (some ⟨gd, 0, none⟩)), .l 24 (.pointer (some ⟨g4, 0, none⟩)) (.agg #[.string r.lo, .string r.hi, .bool r.op])] [3, 4, 27, 28] (by kernel_rfl) (fun _ => by kernel_rfl) (by kernel_rfl : pick _ _ = some [(3, .pointer (some ⟨g4, 0, none⟩)), (4, .pointer (some ⟨g8, 0, none⟩)), (27, .pointer (some ⟨gd, 0, none⟩)), (28, .agg #[.string r.lo, .string r.hi, .bool r.op])]) ⟨ldN st10 agg_24 1 rfl rfl rfl, trivial⟩ ?_
      refine RP_e rfl (ef_call (k := 44) (args := [.pointer (some ⟨gd, 0, none⟩), .agg #[.string r.lo, .string r.hi, .bool r.op]]) (ref08fold_cr r (hD.ext st10.ext List.not_mem_nil (fun _ _ => List.not_mem_nil)) hL hk) body_44 (by kernel_rfl)) ?_
      rintro _ w34 ⟨_, rfl, rfl, hx36⟩
      have st35 := st10.call0 hx36
      refine RP_seg 3 [.p (.tuple #[.agg #[.int .i64 ((allTal (r.of L)).k), .int .u64 ((allTal (r.of L)).a), .int .u64 ((allTal (r.of L)).b)], .int .i64 r.check]), .p (.agg #[.int .i64 ((allTal (r.of L)).k), .int .u64 ((allTal (r.of L)).a), .int .u64 ((allTal (r.of L)).b)]), .p (.int .i64 r.check)] [3, 4, 30, 31] (by kernel_rfl) (fun _ => by kernel_rfl) (by kernel_rfl : pick _ _ = some [(3, .pointer (some ⟨g4, 0, none⟩)), (4, .pointer (some ⟨g8, 0, none⟩)), (30, .agg #[.int .i64 ((allTal (r.of L)).k), .int .u64 ((allTal (r.of L)).a), .int .u64 ((allTal (r.of L)).b)]), (31, .int .i64 r.check)]) (trivial) ?_
      refine RP_e rfl (ef_alloc st35 zero_32 rfl) ?_
      rintro _ w37 ⟨g40, rfl, hg40, hg40', st38, hx39⟩
      replace st38 : St [] w w37 [(g40, 32, [.int .i64 0, .int .u64 0, .int .u64 0]), (g8, 34, [.int .i64 0, .string (⟨#[]⟩ : ByteArray), .string (⟨#[]⟩ : ByteArray), .bool false, .int .i64 0, .int .u64 0, .int .u64 0, .slice none 0 0]), (g4, 24, [.string r.lo, .string r.hi, .bool r.op])] := st38
      refine RP_e rfl (ef_store st38 rfl rfl rfl size_32 0 rfl rfl rfl rfl (.inr hg40)) ?_
      rintro _ w41 ⟨rfl, st42, hx43⟩
      replace st42 : St [] w w41 [(g40, 32, [.int .i64 ((allTal (r.of L)).k), .int .u64 ((allTal (r.of L)).a), .int .u64 ((allTal (r.of L)).b)]), (g8, 34, [.int .i64 0, .string (⟨#[]⟩ : ByteArray), .string (⟨#[]⟩ : ByteArray), .bool false, .int .i64 0, .int .u64 0, .int .u64 0, .slice none 0 0]), (g4, 24, [.string r.lo, .string r.hi, .bool r.op])] := st42
      refine RP_seg 1 [.p (.int .i64 r.check)] [3, 4, 7] (by kernel_rfl) (fun _ => by kernel_rfl) (by kernel_rfl : pick _ _ = some [(3, .pointer (some ⟨g4, 0, none⟩)), (4, .pointer (some ⟨g8, 0, none⟩)), (7, .pointer (some ⟨g40, 0, none⟩))]) (trivial) ?_
      refine RP_pick [3, 4, 7] (by kernel_rfl : pick _ _ = some [(3, .pointer (some ⟨g4, 0, none⟩)), (4, .pointer (some ⟨g8, 0, none⟩)), (7, .pointer (some ⟨g40, 0, none⟩))]) ?_
      refine RP_nil ?_
      refine n_then ?_
      refine W_seq ?_
      refine W_region ?_
      refine RP_seg 3 [.l 24 (.pointer (some ⟨g4, 0, none⟩)) (.agg #[.string r.lo, .string r.hi, .bool r.op]), .l 32 (.pointer (some ⟨g40, 0, none⟩)) (.agg #[.int .i64 ((allTal (r.of L)).k), .int .u64 ((allTal (r.of L)).a), .int .u64 ((allTal (r.of L)).b)]), .p (.agg #[.int .i64 1, .string r.lo, .string r.hi, .bool r.op, .int .i64 ((allTal (r.of L)).k), .int .u64 ((allTal (r.of L)).a), .int .u64 ((allTal (r.of L)).b), .slice none 0 0])] [4, 34] (by kernel_rfl) (fun _ => by kernel_rfl) (by kernel_rfl : pick _ _ = some [(4, .pointer (some ⟨g8, 0, none⟩)), (34, .agg #[.int .i64 1, .string r.lo, .string r.hi, .bool r.op, .int .i64 ((allTal (r.of L)).k), .int .u64 ((allTal (r.of L)).a), .int .u64 ((allTal (r.of L)).b), .slice none 0 0])]) ⟨ldN st42 agg_24 2 rfl rfl rfl, ldN st42 agg_32 0 rfl rfl rfl, trivial⟩ ?_
      refine RP_e rfl (ef_store st42 rfl rfl rfl size_34 1 rfl rfl rfl rfl (.inr hg8)) ?_
      rintro _ w44 ⟨rfl, st45, hx46⟩
      replace st45 : St [] w w44 [(g40, 32, [.int .i64 ((allTal (r.of L)).k), .int .u64 ((allTal (r.of L)).a), .int .u64 ((allTal (r.of L)).b)]), (g8, 34, [.int .i64 1, .string r.lo, .string r.hi, .bool r.op, .int .i64 ((allTal (r.of L)).k), .int .u64 ((allTal (r.of L)).a), .int .u64 ((allTal (r.of L)).b), .slice none 0 0]), (g4, 24, [.string r.lo, .string r.hi, .bool r.op])] := st45
      refine RP_seg 1 [.p (.int .i64 0)] [4, 5] (by kernel_rfl) (fun _ => by kernel_rfl) (by kernel_rfl : pick _ _ = some [(4, .pointer (some ⟨g8, 0, none⟩)), (5, .int .i64 0)]) (trivial) ?_
      refine RP_pick [4, 5] (by kernel_rfl : pick _ _ = some [(4, .pointer (some ⟨g8, 0, none⟩)), (5, .int .i64 0)]) ?_
      refine RP_nil ?_
      refine n_then ?_
      refine W_ret ?_
      have hpe : printErr r = 0 := by unfold printErr Rng.empty; (try rw [c12_12]); (try rw [c18_16]); rfl
      refine ret_of (P := Tryd.prog) (fn := Tryd.f13) (m := [(4, .pointer (some ⟨g8, 0, none⟩)), (5, .int .i64 0)]) (w := w44) (res2 rfl (rv_cell rfl (by simpa [Instr.loadAt, Instr.sureAddr] using (ldN st45 agg_34 1 rfl rfl rfl))) (rv_tmp rfl)) ?_
      -- return 3: .agg #[.int .i64 1, .string r.lo, .string r.hi, .bool r.op, .int .i64 ((allTal (r.of L)).k), .int .u64 ((allTal (r.of L)).a), .int .u64 ((allTal (r.of L)).b), .slice none 0 0], .int .i64 0
      exact ⟨by unfold docP; rw [hpe, show ((0 : Int) != 0) = false from rfl]; rfl, st45.ext⟩
end Go.Proofs.YtcopemgkjbaaeaaDoor
