/-
  ref04.words, Of; ref05.Of.
-/
import Derived.Test.YtcopemgkjbaaeaaDoorWd
namespace Go.Proofs.YtcopemgkjbaaeaaDoor
set_option linter.all false
open Go.RowKit

theorem words_A {key : ByteArray} {i : Nat} {x : UInt8} {Wl : List Int} (hW : Wl = wordsTo key i) (hx : key.toList[i]? = some x) (h0 : i % 8 = 0) :
    ∃ a z, wordCells Wl ++ [.int .u64 0] = wordCells (a ++ [z]) ∧ a.length + 1 = Wl.length + 1 ∧ wordsTo key (i + 1) = a ++ [z + 256 ^ (i % 8) * (x.toNat : Int)] ∧ 0 ≤ z ∧ z < 256 ^ (i % 8) := by
  have hi := (List.getElem?_eq_some_iff.1 hx).1
  have hl : (key.toList.take i).length = i := by simp only [List.length_take]; omega
  have h := (keyWords_snoc x i (key.toList.take i) hl).1 (by rw [hl]; exact h0)
  refine ⟨Wl, 0, by simp [wordCells], rfl, ?_, Int.le_refl _, by rw [h0]; decide⟩
  subst hW
  simp only [wordsTo]
  rw [take_snoc hx, h, h0]; simp
theorem words_B {key : ByteArray} {i : Nat} {x : UInt8} {Wl : List Int} (hW : Wl = wordsTo key i) (hx : key.toList[i]? = some x) (h0 : i % 8 ≠ 0) :
    ∃ a z, wordCells Wl = wordCells (a ++ [z]) ∧ a.length + 1 = Wl.length ∧ wordsTo key (i + 1) = a ++ [z + 256 ^ (i % 8) * (x.toNat : Int)] ∧ 0 ≤ z ∧ z < 256 ^ (i % 8) := by
  have hi := (List.getElem?_eq_some_iff.1 hx).1
  have hl : (key.toList.take i).length = i := by simp only [List.length_take]; omega
  obtain ⟨a, z, h1, h2, h3, h4⟩ := (keyWords_snoc x i (key.toList.take i) hl).2 (by rw [hl]; exact h0)
  rw [hl] at h2 h4
  refine ⟨wu (key.size : Nat) :: a, z, ?_, ?_, ?_, h3, h4⟩
  · rw [hW, wordsTo, h1]; rfl
  · rw [hW, wordsTo, h1]; simp
  · rw [wordsTo, take_snoc hx, h2]; rfl

theorem words_cr {w : World} (key : ByteArray) (c n : Int) (hk : key.size < 10000000) :
    CR Tryd.prog 156 [.string key, .agg #[.int .i64 c, .int .i64 n]] w fun v w' => ∃ b d, v = .slice b (mixWords key c n).length d ∧ InS w' b (wordCells (mixWords key c n)) ∧ Ext [] w w' := by
  have st := St.init w []
  refine CR_enter Tryd.func156 rfl Tryd.ntmps156 rfl ?_
  refine W_seq ?_
  refine W_region ?_
  refine RP_e rfl (ef_box st rfl rfl) ?_
  rintro _ w1 ⟨g4, rfl, hg4, hg4', st2, hx3⟩
  replace st2 : St [] w w1 [(g4, 59, [.int .i64 c, .int .i64 n])] := st2
  refine RP_seg 1 [.p (.slice none 0 0)] [0, 3] (by kernel_rfl) (fun _ => by kernel_rfl) (by kernel_rfl : pick _ _ = some [(0, .string key), (3, .pointer (some ⟨g4, 0, none⟩))]) (trivial) ?_
  refine RP_pick [0, 3] (by kernel_rfl : pick _ _ = some [(0, .string key), (3, .pointer (some ⟨g4, 0, none⟩))]) ?_
  refine RP_nil ?_
  refine n_then ?_
  refine W_seq ?_
  refine W_region ?_
  refine RP_seg 3 [.p (.string key), .p (.int .i64 (((key).size : Nat) : Int)), .p (.int .u64 (IntKind.u64.wrap (((key).size : Nat) : Int)))] [0, 3, 9] (by kernel_rfl) (fun _ => by kernel_rfl) (by kernel_rfl : pick _ _ = some [(0, .string key), (3, .pointer (some ⟨g4, 0, none⟩)), (9, .int .u64 (IntKind.u64.wrap (((key).size : Nat) : Int)))]) (trivial) ?_
  refine RP_e rfl (ef_new (t := 28) (cs := [.int .u64 (IntKind.u64.wrap (((key).size : Nat) : Int))]) (fun g => .slice (some ⟨g, 0, none⟩) 1 1) st2 rfl rfl (fun _ => by kernel_rfl)) ?_
  rintro _ w5 ⟨gb, rfl, hgb, hgb', st6, hx7⟩
  refine RP_seg 1 [.p (.slice (some ⟨gb, 0, none⟩) 1 1)] [0, 3, 5] (by kernel_rfl) (fun _ => by kernel_rfl) (by kernel_rfl : pick _ _ = some [(0, .string key), (3, .pointer (some ⟨g4, 0, none⟩)), (5, .slice (some ⟨gb, 0, none⟩) 1 1)]) (trivial) ?_
  refine RP_pick [0, 3, 5] (by kernel_rfl : pick _ _ = some [(0, .string key), (3, .pointer (some ⟨g4, 0, none⟩)), (5, .slice (some ⟨gb, 0, none⟩) 1 1)]) ?_
  refine RP_nil ?_
  refine n_then ?_
  refine W_seq ?_
  refine W_seq ?_
  refine W_region ?_
  refine RP_seg 1 [.p (.int .i64 0)] [0, 3, 5, 6] (by kernel_rfl) (fun _ => by kernel_rfl) (by kernel_rfl : pick _ _ = some [(0, .string key), (3, .pointer (some ⟨g4, 0, none⟩)), (5, .slice (some ⟨gb, 0, none⟩) 1 1), (6, .int .i64 0)]) (trivial) ?_
  refine RP_pick [0, 3, 5, 6] (by kernel_rfl : pick _ _ = some [(0, .string key), (3, .pointer (some ⟨g4, 0, none⟩)), (5, .slice (some ⟨gb, 0, none⟩) 1 1), (6, .int .i64 0)]) ?_
  refine RP_nil ?_
  refine n_then ?_
  refine W_block ?_
  refine W_loop (fun k_ m_ w_ => ∃ (i : Nat) (b : Option Addr) (d : Nat) (Wl : List Int), key.size - i = k_ ∧ m_ = [(0, .string key), (3, .pointer (some ⟨g4, 0, none⟩)), (5, .slice b Wl.length d), (6, .int .i64 ((i : Nat) : Int))] ∧ St [] w w_ [(g4, 59, [.int .i64 c, .int .i64 n])] ∧ i ≤ key.size ∧ Acc w [] w_ 28 1 (.slice b Wl.length d) Wl.length (wordCells Wl) ∧ Wl = wordsTo key i ∧ Wl.length ≤ i + 1) ⟨0, some ⟨gb, 0, none⟩, 1, [wu (key.size : Nat)], rfl, rfl, (st6.sub [] (List.sublist_cons_self _ _)), Nat.zero_le _, Acc.of_new st6 0 rfl rfl (show 1 ≤ maxLen by decide) hgb, by simp [wordsTo, keyWords], by simp⟩ ?_
  rintro _ _ w9 ⟨i, b, d, Wl, rfl, rfl, st8, hik, hac, hW, hWl⟩
  refine W_seq ?_
  refine W_seq ?_
  refine W_region ?_
  refine RP_seg 4 [.p (.int .i64 ((i : Nat) : Int)), .p (.string key), .p (.int .i64 (((key).size : Nat) : Int)), .p (.bool (decide (((i : Nat) : Int) < (((key).size : Nat) : Int))))] [0, 3, 5, 6, 14] (by kernel_rfl) (fun _ => by kernel_rfl) (by kernel_rfl : pick _ _ = some [(0, .string key), (3, .pointer (some ⟨g4, 0, none⟩)), (5, .slice b Wl.length d), (6, .int .i64 ((i : Nat) : Int)), (14, .bool (decide (((i : Nat) : Int) < (((key).size : Nat) : Int))))]) (trivial) ?_
  refine RP_pick [0, 3, 5, 6, 14] (by kernel_rfl : pick _ _ = some [(0, .string key), (3, .pointer (some ⟨g4, 0, none⟩)), (5, .slice b Wl.length d), (6, .int .i64 ((i : Nat) : Int)), (14, .bool (decide (((i : Nat) : Int) < (((key).size : Nat) : Int))))]) ?_
  refine RP_nil ?_
  refine n_then ?_
  refine W_cond rfl (fun c14_10 => ?_) (fun c14_10 => ?_)
  ·
    have c14_10p := of_decide_eq_true c14_10
    refine W_skip ?_
    refine n_then ?_
    refine W_seq ?_
    refine W_block ?_
    refine W_seq ?_
    refine W_seq ?_
    refine W_region ?_
    refine RP_seg 2 [.p (.int .i64 ((i : Nat) : Int)), .p (.int .i64 (Int.tmod ((i : Nat) : Int) 8))] [0, 3, 5, 6, 18] (by kernel_rfl) (fun _ => by kernel_rfl) (by kernel_rfl : pick _ _ = some [(0, .string key), (3, .pointer (some ⟨g4, 0, none⟩)), (5, .slice b Wl.length d), (6, .int .i64 ((i : Nat) : Int)), (18, .int .i64 (Int.tmod ((i : Nat) : Int) 8))]) (trivial) ?_
    refine RP_at (m' := [(0, .string key), (3, .pointer (some ⟨g4, 0, none⟩)), (5, .slice b Wl.length d), (6, .int .i64 ((i : Nat) : Int)), (18, .int .i64 (((i % 8) : Nat) : Int))]) (by rw [tmod8]) ?_
    refine RP_seg 1 [.p (.bool ((((i % 8) : Nat) : Int) == 0))] [0, 3, 5, 6, 19] (by kernel_rfl) (fun _ => by kernel_rfl) (by kernel_rfl : pick _ _ = some [(0, .string key), (3, .pointer (some ⟨g4, 0, none⟩)), (5, .slice b Wl.length d), (6, .int .i64 ((i : Nat) : Int)), (19, .bool ((((i % 8) : Nat) : Int) == 0))]) (trivial) ?_
    refine RP_pick [0, 3, 5, 6, 19] (by kernel_rfl : pick _ _ = some [(0, .string key), (3, .pointer (some ⟨g4, 0, none⟩)), (5, .slice b Wl.length d), (6, .int .i64 ((i : Nat) : Int)), (19, .bool ((((i % 8) : Nat) : Int) == 0))]) ?_
    refine RP_nil ?_
    refine n_then ?_
    refine W_cond rfl (fun c19_11 => ?_) (fun c19_11 => ?_)
    ·
      refine W_region ?_
      refine RP_seg 1 [.p (.slice b Wl.length d)] [0, 3, 6, 20] (by kernel_rfl) (fun _ => by kernel_rfl) (by kernel_rfl : pick _ _ = some [(0, .string key), (3, .pointer (some ⟨g4, 0, none⟩)), (6, .int .i64 ((i : Nat) : Int)), (20, .slice b Wl.length d)]) (trivial) ?_
      refine RP_e rfl (ef_new (t := 28) (cs := [.int .u64 0]) (fun g => .slice (some ⟨g, 0, none⟩) 1 1) st8 rfl rfl (fun _ => by kernel_rfl)) ?_
      rintro _ w12 ⟨g15, rfl, hg15, hg15', st13, hx14⟩
      replace hac := hac.ext hx14 (by simp)
      refine RP_e rfl (ef_appendI appW (st13.sub (M' := [(g4, 59, [.int .i64 c, .int .i64 n])]) [] (List.sublist_cons_self _ _)) hac rfl rfl (InS.of_blk (st13.get 0 rfl)) rfl rfl (by simp only [maxLen]; omega) (by omega) (Acc.apart hac (st13.sub [] (List.sublist_cons_self _ _)) rfl)) ?_
      rintro _ w16 ⟨v1, rfl, hac, st17, hx18⟩
      obtain ⟨b1, d1, rfl⟩ := ownsRow.form' hac.own
      refine RP_seg 1 [.p (.slice b1 (Wl.length + 1) d1)] [0, 3, 5, 6] (by kernel_rfl) (fun _ => by kernel_rfl) (by kernel_rfl : pick _ _ = some [(0, .string key), (3, .pointer (some ⟨g4, 0, none⟩)), (5, .slice b1 (Wl.length + 1) d1), (6, .int .i64 ((i : Nat) : Int))]) (trivial) ?_
      refine RP_pick [0, 3, 5, 6] (by kernel_rfl : pick _ _ = some [(0, .string key), (3, .pointer (some ⟨g4, 0, none⟩)), (5, .slice b1 (Wl.length + 1) d1), (6, .int .i64 ((i : Nat) : Int))]) ?_
      refine RP_nil ?_
      refine n_then ?_
      have hlt : i < key.size := by omega
      obtain ⟨x, hx⟩ : ∃ x, key.toList[i]? = some x := ⟨key.toList[i]'(by rw [size_toList]; exact hlt), by simp⟩
      obtain ⟨a, z, hcur, hla, hnx, hz0, hz1⟩ := words_A hW hx (by have := c19_11; simp at this; omega)
      rw [hcur] at hac
      have hb0 := (ownsRow.some_ hac.own (by omega)).1
      -- region 7 draws: [(1, 0), (1, 1), (1, 2), (1, 3), (1, 4), (1, 5), (1, 6), (1, 7), (1, 8), (1, 9), (1, 10), (1, 11), (1, 12), (1, 13), (1, 14), (0, 15), (3, 16)]
      refine W_regionS (fun w' => (w').ownsRow 0 28 1 (.slice b1 (Wl.length + 1) d1) (Wl.length + 1) (wordCells (a ++ [z]))) [(1, 0), (1, 1), (1, 2), (1, 3), (1, 4), (1, 5), (1, 6), (1, 7), (1, 8), (1, 9), (1, 10), (1, 11), (1, 12), (1, 13), (1, 14), (0, 15), (3, 16)] 17 (by kernel_rfl) (by kernel_rfl) ?_
      have st19 := st17.drew
      replace hac := hac.drew
      refine RS_seg 4 [.p (.slice b1 (Wl.length + 1) d1), .p (.slice b1 (Wl.length + 1) d1), .p (.int .i64 (((Wl.length + 1) : Nat) : Int)), .p (.int .i64 (IntKind.i64.wrap ((((Wl.length + 1) : Nat) : Int) - 1)))] [0, 3, 5, 6, 23, 26] (by kernel_rfl) (by kernel_rfl) (hac.own) (by kernel_rfl) (fun _ => by kernel_rfl) (by kernel_rfl : pick _ _ = some [(0, .string key), (3, .pointer (some ⟨g4, 0, none⟩)), (5, .slice b1 (Wl.length + 1) d1), (6, .int .i64 ((i : Nat) : Int)), (23, .slice b1 (Wl.length + 1) d1), (26, .int .i64 (IntKind.i64.wrap ((((Wl.length + 1) : Nat) : Int) - 1)))]) (fun _ hS => trivial) ?_
      refine RS_at (m' := [(0, .string key), (3, .pointer (some ⟨g4, 0, none⟩)), (5, .slice b1 (Wl.length + 1) d1), (6, .int .i64 ((i : Nat) : Int)), (23, .slice b1 (Wl.length + 1) d1), (26, .int .i64 ((a.length : Nat) : Int))]) (by rw [show IntKind.i64.wrap ((((Wl.length + 1) : Nat) : Int) - 1) = ((a.length : Nat) : Int) by rw [wrap_in (by omega) (by omega)]; omega]) ?_
      refine RS_q rfl rfl (hac.own) (v := .pointer (some ⟨(sp b1), (a.length * 1), none⟩)) (fun _ _ => ev_indexO idxW rfl rfl hb0 (by omega)) ?_
      refine RS_seg 3 [.l 28 (.pointer (some ⟨(sp b1), (a.length * 1), none⟩)) (.int .u64 z), .p (.string key), .p (.int .i64 ((i : Nat) : Int))] [0, 3, 5, 6, 23, 26, 28, 29, 30] (by kernel_rfl) (by kernel_rfl) (hac.own) (by kernel_rfl) (fun _ => by kernel_rfl) (by kernel_rfl : pick _ _ = some [(0, .string key), (3, .pointer (some ⟨g4, 0, none⟩)), (5, .slice b1 (Wl.length + 1) d1), (6, .int .i64 ((i : Nat) : Int)), (23, .slice b1 (Wl.length + 1) d1), (26, .int .i64 ((a.length : Nat) : Int)), (28, .int .u64 z), (29, .string key), (30, .int .i64 ((i : Nat) : Int))]) (fun _ hS => ⟨(ownsRow.load1 nagg_28 (hS) (by simp [wordCells])), trivial⟩) ?_
      refine RS_q rfl rfl (hac.own) (v := .int .u8 ((x.toNat : Nat) : Int)) (fun _ _ => ev_sidx (by kernel_rfl) rfl rfl hx) ?_
      refine RS_seg 3 [.p (.int .u64 (IntKind.u64.wrap ((x.toNat : Nat) : Int))), .p (.int .i64 ((i : Nat) : Int)), .p (.int .i64 (Int.tmod ((i : Nat) : Int) 8))] [0, 3, 5, 6, 23, 26, 28, 32, 34] (by kernel_rfl) (by kernel_rfl) (hac.own) (by kernel_rfl) (fun _ => by kernel_rfl) (by kernel_rfl : pick _ _ = some [(0, .string key), (3, .pointer (some ⟨g4, 0, none⟩)), (5, .slice b1 (Wl.length + 1) d1), (6, .int .i64 ((i : Nat) : Int)), (23, .slice b1 (Wl.length + 1) d1), (26, .int .i64 ((a.length : Nat) : Int)), (28, .int .u64 z), (32, .int .u64 (IntKind.u64.wrap ((x.toNat : Nat) : Int))), (34, .int .i64 (Int.tmod ((i : Nat) : Int) 8))]) (fun _ hS => trivial) ?_
      refine RS_at (m' := [(0, .string key), (3, .pointer (some ⟨g4, 0, none⟩)), (5, .slice b1 (Wl.length + 1) d1), (6, .int .i64 ((i : Nat) : Int)), (23, .slice b1 (Wl.length + 1) d1), (26, .int .i64 ((a.length : Nat) : Int)), (28, .int .u64 z), (32, .int .u64 (IntKind.u64.wrap ((x.toNat : Nat) : Int))), (34, .int .i64 (((i % 8) : Nat) : Int))]) (by rw [tmod8]) ?_
      refine RS_seg 1 [.p (.int .i64 (IntKind.i64.wrap (8 * (((i % 8) : Nat) : Int))))] [0, 3, 5, 6, 23, 26, 28, 32, 35] (by kernel_rfl) (by kernel_rfl) (hac.own) (by kernel_rfl) (fun _ => by kernel_rfl) (by kernel_rfl : pick _ _ = some [(0, .string key), (3, .pointer (some ⟨g4, 0, none⟩)), (5, .slice b1 (Wl.length + 1) d1), (6, .int .i64 ((i : Nat) : Int)), (23, .slice b1 (Wl.length + 1) d1), (26, .int .i64 ((a.length : Nat) : Int)), (28, .int .u64 z), (32, .int .u64 (IntKind.u64.wrap ((x.toNat : Nat) : Int))), (35, .int .i64 (IntKind.i64.wrap (8 * (((i % 8) : Nat) : Int))))]) (fun _ hS => trivial) ?_
      refine RS_at (m' := [(0, .string key), (3, .pointer (some ⟨g4, 0, none⟩)), (5, .slice b1 (Wl.length + 1) d1), (6, .int .i64 ((i : Nat) : Int)), (23, .slice b1 (Wl.length + 1) d1), (26, .int .i64 ((a.length : Nat) : Int)), (28, .int .u64 z), (32, .int .u64 (IntKind.u64.wrap ((x.toNat : Nat) : Int))), (35, .int .i64 (((8 * (i % 8)) : Nat) : Int))]) (by rw [show IntKind.i64.wrap (8 * ((i % 8 : Nat) : Int)) = ((8 * (i % 8) : Nat) : Int) by rw [wrap_in (by omega) (by omega)]; omega]) ?_
      refine RS_q rfl rfl (hac.own) (v := .int .u64 (IntKind.u64.wrap ((IntKind.u64.wrap ((x.toNat : Nat) : Int)) * 2 ^ (min (8 * (i % 8)) 64)))) (fun _ _ => ev_shl rfl rfl) ?_
      refine RS_seg 1 [.p (.int .u64 (IntKind.u64.wrap (z + (IntKind.u64.wrap ((IntKind.u64.wrap ((x.toNat : Nat) : Int)) * 2 ^ (min (8 * (i % 8)) 64))))))] [0, 3, 5, 6, 23, 26, 37] (by kernel_rfl) (by kernel_rfl) (hac.own) (by kernel_rfl) (fun _ => by kernel_rfl) (by kernel_rfl : pick _ _ = some [(0, .string key), (3, .pointer (some ⟨g4, 0, none⟩)), (5, .slice b1 (Wl.length + 1) d1), (6, .int .i64 ((i : Nat) : Int)), (23, .slice b1 (Wl.length + 1) d1), (26, .int .i64 ((a.length : Nat) : Int)), (37, .int .u64 (IntKind.u64.wrap (z + (IntKind.u64.wrap ((IntKind.u64.wrap ((x.toNat : Nat) : Int)) * 2 ^ (min (8 * (i % 8)) 64))))))]) (fun _ hS => trivial) ?_
      refine RS_at (m' := [(0, .string key), (3, .pointer (some ⟨g4, 0, none⟩)), (5, .slice b1 (Wl.length + 1) d1), (6, .int .i64 ((i : Nat) : Int)), (23, .slice b1 (Wl.length + 1) d1), (26, .int .i64 ((a.length : Nat) : Int)), (37, .int .u64 (z + 256 ^ (i % 8) * ((x.toNat : Nat) : Int)))]) (by rw [wadd (x := x) (by omega) hz0 hz1]) ?_
      refine RS_p rfl rfl (v := .pointer (some ⟨(sp b1), (a.length * 1), none⟩)) (fun _ => ev_indexO idxW rfl rfl hb0 (by omega)) ?_
      refine RS_f rfl rfl (ef_storeO hac st19 rfl rfl rfl size_28 rfl (by decide) (by simp [wordCells]) rfl (Acc.apart hac st19 rfl)) ?_
      rintro _ w20 ⟨rfl, hac, st21, hx22⟩
      rw [Nat.mul_one, set_last, ← hnx] at hac
      have hK2 : (wordsTo key (i + 1)).length = (Wl.length + 1) := by rw [hnx]; simp; omega
      refine RS_pick [0, 3, 5, 6] (by kernel_rfl : pick _ _ = some [(0, .string key), (3, .pointer (some ⟨g4, 0, none⟩)), (5, .slice b1 (Wl.length + 1) d1), (6, .int .i64 ((i : Nat) : Int))]) ?_
      refine RS_nil ?_
      refine n_block ?_
      refine n_then ?_
      refine W_region ?_
      refine RP_seg 3 [.p (.int .i64 ((i : Nat) : Int)), .p (.int .i64 (IntKind.i64.wrap (((i : Nat) : Int) + 1))), .p (.int .i64 (IntKind.i64.wrap (((i : Nat) : Int) + 1)))] [0, 3, 5, 6] (by kernel_rfl) (fun _ => by kernel_rfl) (by kernel_rfl : pick _ _ = some [(0, .string key), (3, .pointer (some ⟨g4, 0, none⟩)), (5, .slice b1 (Wl.length + 1) d1), (6, .int .i64 (IntKind.i64.wrap (((i : Nat) : Int) + 1)))]) (trivial) ?_
      refine RP_pick [0, 3, 5, 6] (by kernel_rfl : pick _ _ = some [(0, .string key), (3, .pointer (some ⟨g4, 0, none⟩)), (5, .slice b1 (Wl.length + 1) d1), (6, .int .i64 (IntKind.i64.wrap (((i : Nat) : Int) + 1)))]) ?_
      refine RP_nil ?_
      -- back 0: [(0, .string key), (3, .pointer (some ⟨g4, 0, none⟩)), (5, .slice b1 (Wl.length + 1) d1), (6, .int .i64 (IntKind.i64.wrap (((i : Nat) : Int) + 1)))]
      exact ⟨_, by omega, (i + 1), b1, d1, (wordsTo key (i + 1)), rfl, by rw [inc_w (n := i) (by omega), hK2], st21, by omega, by rw [hK2]; exact hac, rfl, by omega⟩
    ·
      refine W_skip ?_
      refine n_then ?_
      have hlt : i < key.size := by omega
      obtain ⟨x, hx⟩ : ∃ x, key.toList[i]? = some x := ⟨key.toList[i]'(by rw [size_toList]; exact hlt), by simp⟩
      obtain ⟨a, z, hcur, hla, hnx, hz0, hz1⟩ := words_B hW hx (by have := c19_11; simp at this; omega)
      rw [hcur] at hac
      have hb0 := (ownsRow.some_ hac.own (by omega)).1
      -- region 7 draws: [(1, 0), (1, 1), (1, 2), (1, 3), (1, 4), (1, 5), (1, 6), (1, 7), (1, 8), (1, 9), (1, 10), (1, 11), (1, 12), (1, 13), (1, 14), (0, 15), (3, 16)]
      refine W_regionS (fun w' => (w').ownsRow 0 28 1 (.slice b Wl.length d) Wl.length (wordCells (a ++ [z]))) [(1, 0), (1, 1), (1, 2), (1, 3), (1, 4), (1, 5), (1, 6), (1, 7), (1, 8), (1, 9), (1, 10), (1, 11), (1, 12), (1, 13), (1, 14), (0, 15), (3, 16)] 17 (by kernel_rfl) (by kernel_rfl) ?_
      have st23 := st8.drew
      replace hac := hac.drew
      refine RS_seg 4 [.p (.slice b Wl.length d), .p (.slice b Wl.length d), .p (.int .i64 ((Wl.length : Nat) : Int)), .p (.int .i64 (IntKind.i64.wrap (((Wl.length : Nat) : Int) - 1)))] [0, 3, 5, 6, 23, 26] (by kernel_rfl) (by kernel_rfl) (hac.own) (by kernel_rfl) (fun _ => by kernel_rfl) (by kernel_rfl : pick _ _ = some [(0, .string key), (3, .pointer (some ⟨g4, 0, none⟩)), (5, .slice b Wl.length d), (6, .int .i64 ((i : Nat) : Int)), (23, .slice b Wl.length d), (26, .int .i64 (IntKind.i64.wrap (((Wl.length : Nat) : Int) - 1)))]) (fun _ hS => trivial) ?_
      refine RS_at (m' := [(0, .string key), (3, .pointer (some ⟨g4, 0, none⟩)), (5, .slice b Wl.length d), (6, .int .i64 ((i : Nat) : Int)), (23, .slice b Wl.length d), (26, .int .i64 ((a.length : Nat) : Int))]) (by rw [show IntKind.i64.wrap (((Wl.length : Nat) : Int) - 1) = ((a.length : Nat) : Int) by rw [wrap_in (by omega) (by omega)]; omega]) ?_
      refine RS_q rfl rfl (hac.own) (v := .pointer (some ⟨(sp b), (a.length * 1), none⟩)) (fun _ _ => ev_indexO idxW rfl rfl hb0 (by omega)) ?_
      refine RS_seg 3 [.l 28 (.pointer (some ⟨(sp b), (a.length * 1), none⟩)) (.int .u64 z), .p (.string key), .p (.int .i64 ((i : Nat) : Int))] [0, 3, 5, 6, 23, 26, 28, 29, 30] (by kernel_rfl) (by kernel_rfl) (hac.own) (by kernel_rfl) (fun _ => by kernel_rfl) (by kernel_rfl : pick _ _ = some [(0, .string key), (3, .pointer (some ⟨g4, 0, none⟩)), (5, .slice b Wl.length d), (6, .int .i64 ((i : Nat) : Int)), (23, .slice b Wl.length d), (26, .int .i64 ((a.length : Nat) : Int)), (28, .int .u64 z), (29, .string key), (30, .int .i64 ((i : Nat) : Int))]) (fun _ hS => ⟨(ownsRow.load1 nagg_28 (hS) (by simp [wordCells])), trivial⟩) ?_
      refine RS_q rfl rfl (hac.own) (v := .int .u8 ((x.toNat : Nat) : Int)) (fun _ _ => ev_sidx (by kernel_rfl) rfl rfl hx) ?_
      refine RS_seg 3 [.p (.int .u64 (IntKind.u64.wrap ((x.toNat : Nat) : Int))), .p (.int .i64 ((i : Nat) : Int)), .p (.int .i64 (Int.tmod ((i : Nat) : Int) 8))] [0, 3, 5, 6, 23, 26, 28, 32, 34] (by kernel_rfl) (by kernel_rfl) (hac.own) (by kernel_rfl) (fun _ => by kernel_rfl) (by kernel_rfl : pick _ _ = some [(0, .string key), (3, .pointer (some ⟨g4, 0, none⟩)), (5, .slice b Wl.length d), (6, .int .i64 ((i : Nat) : Int)), (23, .slice b Wl.length d), (26, .int .i64 ((a.length : Nat) : Int)), (28, .int .u64 z), (32, .int .u64 (IntKind.u64.wrap ((x.toNat : Nat) : Int))), (34, .int .i64 (Int.tmod ((i : Nat) : Int) 8))]) (fun _ hS => trivial) ?_
      refine RS_at (m' := [(0, .string key), (3, .pointer (some ⟨g4, 0, none⟩)), (5, .slice b Wl.length d), (6, .int .i64 ((i : Nat) : Int)), (23, .slice b Wl.length d), (26, .int .i64 ((a.length : Nat) : Int)), (28, .int .u64 z), (32, .int .u64 (IntKind.u64.wrap ((x.toNat : Nat) : Int))), (34, .int .i64 (((i % 8) : Nat) : Int))]) (by rw [tmod8]) ?_
      refine RS_seg 1 [.p (.int .i64 (IntKind.i64.wrap (8 * (((i % 8) : Nat) : Int))))] [0, 3, 5, 6, 23, 26, 28, 32, 35] (by kernel_rfl) (by kernel_rfl) (hac.own) (by kernel_rfl) (fun _ => by kernel_rfl) (by kernel_rfl : pick _ _ = some [(0, .string key), (3, .pointer (some ⟨g4, 0, none⟩)), (5, .slice b Wl.length d), (6, .int .i64 ((i : Nat) : Int)), (23, .slice b Wl.length d), (26, .int .i64 ((a.length : Nat) : Int)), (28, .int .u64 z), (32, .int .u64 (IntKind.u64.wrap ((x.toNat : Nat) : Int))), (35, .int .i64 (IntKind.i64.wrap (8 * (((i % 8) : Nat) : Int))))]) (fun _ hS => trivial) ?_
      refine RS_at (m' := [(0, .string key), (3, .pointer (some ⟨g4, 0, none⟩)), (5, .slice b Wl.length d), (6, .int .i64 ((i : Nat) : Int)), (23, .slice b Wl.length d), (26, .int .i64 ((a.length : Nat) : Int)), (28, .int .u64 z), (32, .int .u64 (IntKind.u64.wrap ((x.toNat : Nat) : Int))), (35, .int .i64 (((8 * (i % 8)) : Nat) : Int))]) (by rw [show IntKind.i64.wrap (8 * ((i % 8 : Nat) : Int)) = ((8 * (i % 8) : Nat) : Int) by rw [wrap_in (by omega) (by omega)]; omega]) ?_
      refine RS_q rfl rfl (hac.own) (v := .int .u64 (IntKind.u64.wrap ((IntKind.u64.wrap ((x.toNat : Nat) : Int)) * 2 ^ (min (8 * (i % 8)) 64)))) (fun _ _ => ev_shl rfl rfl) ?_
      refine RS_seg 1 [.p (.int .u64 (IntKind.u64.wrap (z + (IntKind.u64.wrap ((IntKind.u64.wrap ((x.toNat : Nat) : Int)) * 2 ^ (min (8 * (i % 8)) 64))))))] [0, 3, 5, 6, 23, 26, 37] (by kernel_rfl) (by kernel_rfl) (hac.own) (by kernel_rfl) (fun _ => by kernel_rfl) (by kernel_rfl : pick _ _ = some [(0, .string key), (3, .pointer (some ⟨g4, 0, none⟩)), (5, .slice b Wl.length d), (6, .int .i64 ((i : Nat) : Int)), (23, .slice b Wl.length d), (26, .int .i64 ((a.length : Nat) : Int)), (37, .int .u64 (IntKind.u64.wrap (z + (IntKind.u64.wrap ((IntKind.u64.wrap ((x.toNat : Nat) : Int)) * 2 ^ (min (8 * (i % 8)) 64))))))]) (fun _ hS => trivial) ?_
      refine RS_at (m' := [(0, .string key), (3, .pointer (some ⟨g4, 0, none⟩)), (5, .slice b Wl.length d), (6, .int .i64 ((i : Nat) : Int)), (23, .slice b Wl.length d), (26, .int .i64 ((a.length : Nat) : Int)), (37, .int .u64 (z + 256 ^ (i % 8) * ((x.toNat : Nat) : Int)))]) (by rw [wadd (x := x) (by omega) hz0 hz1]) ?_
      refine RS_p rfl rfl (v := .pointer (some ⟨(sp b), (a.length * 1), none⟩)) (fun _ => ev_indexO idxW rfl rfl hb0 (by omega)) ?_
      refine RS_f rfl rfl (ef_storeO hac st23 rfl rfl rfl size_28 rfl (by decide) (by simp [wordCells]) rfl (Acc.apart hac st23 rfl)) ?_
      rintro _ w24 ⟨rfl, hac, st25, hx26⟩
      rw [Nat.mul_one, set_last, ← hnx] at hac
      have hK2 : (wordsTo key (i + 1)).length = Wl.length := by rw [hnx]; simp; omega
      refine RS_pick [0, 3, 5, 6] (by kernel_rfl : pick _ _ = some [(0, .string key), (3, .pointer (some ⟨g4, 0, none⟩)), (5, .slice b Wl.length d), (6, .int .i64 ((i : Nat) : Int))]) ?_
      refine RS_nil ?_
      refine n_block ?_
      refine n_then ?_
      refine W_region ?_
      refine RP_seg 3 [.p (.int .i64 ((i : Nat) : Int)), .p (.int .i64 (IntKind.i64.wrap (((i : Nat) : Int) + 1))), .p (.int .i64 (IntKind.i64.wrap (((i : Nat) : Int) + 1)))] [0, 3, 5, 6] (by kernel_rfl) (fun _ => by kernel_rfl) (by kernel_rfl : pick _ _ = some [(0, .string key), (3, .pointer (some ⟨g4, 0, none⟩)), (5, .slice b Wl.length d), (6, .int .i64 (IntKind.i64.wrap (((i : Nat) : Int) + 1)))]) (trivial) ?_
      refine RP_pick [0, 3, 5, 6] (by kernel_rfl : pick _ _ = some [(0, .string key), (3, .pointer (some ⟨g4, 0, none⟩)), (5, .slice b Wl.length d), (6, .int .i64 (IntKind.i64.wrap (((i : Nat) : Int) + 1)))]) ?_
      refine RP_nil ?_
      -- back 1: [(0, .string key), (3, .pointer (some ⟨g4, 0, none⟩)), (5, .slice b Wl.length d), (6, .int .i64 (IntKind.i64.wrap (((i : Nat) : Int) + 1)))]
      exact ⟨_, by omega, (i + 1), b, d, (wordsTo key (i + 1)), rfl, by rw [inc_w (n := i) (by omega), hK2], st25, by omega, by rw [hK2]; exact hac, rfl, by omega⟩
  ·
    have c14_10p := of_decide_eq_false c14_10
    refine W_exit ?_
    refine e_then <| e_loop <| e_here ?_
    refine n_then ?_
    refine W_seq ?_
    refine W_region ?_
    refine RP_seg 7 [.p (.slice b Wl.length d), .p (.pointer (some ⟨g4, 0, none⟩)), .l 3 (.pointer (some ⟨g4, 0, none⟩)) (.int .i64 c), .p (.int .u64 (IntKind.u64.wrap c)), .p (.pointer (some ⟨g4, 1, none⟩)), .l 3 (.pointer (some ⟨g4, 1, none⟩)) (.int .i64 n), .p (.int .u64 (IntKind.u64.wrap n))] [39, 42, 45] (by kernel_rfl) (fun _ => by kernel_rfl) (by kernel_rfl : pick _ _ = some [(39, .slice b Wl.length d), (42, .int .u64 (IntKind.u64.wrap c)), (45, .int .u64 (IntKind.u64.wrap n))]) ⟨ld1 st8 nagg_3 0 rfl rfl, ld1 st8 nagg_3 0 rfl rfl, trivial⟩ ?_
    refine RP_e rfl (ef_new (t := 28) (cs := [.int .u64 (IntKind.u64.wrap c), .int .u64 (IntKind.u64.wrap n)]) (fun g => .slice (some ⟨g, 0, none⟩) 2 2) st8 rfl rfl (fun _ => by kernel_rfl)) ?_
    rintro _ w27 ⟨g30, rfl, hg30, hg30', st28, hx29⟩
    replace hac := hac.ext hx29 (by simp)
    refine RP_e rfl (ef_appendI appW (st28.sub (M' := [(g4, 59, [.int .i64 c, .int .i64 n])]) [] (List.sublist_cons_self _ _)) hac rfl rfl (InS.of_blk (st28.get 0 rfl)) rfl rfl (by simp only [maxLen]; omega) (by omega) (Acc.apart hac (st28.sub [] (List.sublist_cons_self _ _)) rfl)) ?_
    rintro _ w31 ⟨v2, rfl, hac, st32, hx33⟩
    obtain ⟨b2, d2, rfl⟩ := ownsRow.form' hac.own
    refine RP_seg 1 [.p (.slice b2 (Wl.length + 2) d2)] [4] (by kernel_rfl) (fun _ => by kernel_rfl) (by kernel_rfl : pick _ _ = some [(4, .slice b2 (Wl.length + 2) d2)]) (trivial) ?_
    refine RP_pick [4] (by kernel_rfl : pick _ _ = some [(4, .slice b2 (Wl.length + 2) d2)]) ?_
    refine RP_nil ?_
    refine n_then ?_
    refine W_ret ?_
    have hik2 : i = key.size := by omega
    have hfin : wordCells Wl ++ [.int .u64 (IntKind.u64.wrap c), .int .u64 (IntKind.u64.wrap n)] = wordCells (mixWords key c n) := by rw [hW, hik2, wordsTo, List.take_of_length_le (by rw [size_toList]; exact Nat.le_refl _)]; simp [wordCells, mixWords, wu]
    have hfl : Wl.length + 2 = (mixWords key c n).length := by have := congrArg List.length hfin; simpa [wordCells] using this
    rw [hfin] at hac
    refine ret_of (P := Tryd.prog) (fn := Tryd.f156) (m := [(4, .slice b2 (Wl.length + 2) d2)]) (w := w31) (res1 rfl (rv_tmp rfl)) ?_
    -- return 0: .slice b2 (Wl.length + 2) d2
    exact ⟨b2, d2, by rw [hfl], InS.of_own (hfl ▸ hac.own), st32.ext⟩
end Go.Proofs.YtcopemgkjbaaeaaDoor
