/-
  Stores into slices of the call's own; words byte by byte.
-/
import Derived.Test.YtcopemgkjbaaeaaDoorRf2
namespace Go.Proofs.YtcopemgkjbaaeaaDoor
set_option linter.all false
open Go.RowKit

theorem over_len : ∀ (vs cs : List Value) (o : Nat), (over_ cs o vs).length = cs.length
  | [], _, _ => rfl
  | v :: vs, cs, o => by rw [over_, over_len vs]; simp
theorem over_take : ∀ (vs cs : List Value) (o n : Nat), o + vs.length ≤ n → n ≤ cs.length → (over_ cs o vs).take n = over_ (cs.take n) o vs
  | [], _, _, _, _, _ => rfl
  | v :: vs, cs, o, n, h, hn => by
    simp only [List.length_cons] at h
    rw [over_, over_, over_take vs _ _ _ (by omega) (by simpa using hn), List.take_set]
section
variable {P : Program} {n : Nat} {m : SM} {w w0 w' : World} {X : List Nat} {M : List (Nat × TypeId × List Value)}
variable {dst : Option Nat} {ty : TypeId} {pos : String} {af : Array Edge} {gd : Option (Nat × Bool)}
theorem Acc.apart {e : TypeId} {size k : Nat} {v : Value} {xs : List Value} (ha : Acc w0 X w e size v k xs) (st : St X w0 w M) (ht : M.all (fun x => x.2.1 != e) = true) : ∀ q ∈ M.map (·.1), q ∉ ownB v := by
  intro g hg hm
  obtain ⟨x, hx, rfl⟩ := List.mem_map.1 hg
  have h1 := List.all_eq_true.1 ht x hx
  simp only [bne_iff_ne, ne_eq] at h1
  exact ownsRow.not_blk ha.own (st.blk x hx) (fun h => h1 h.symm) hm
theorem Acc.apart1 {e : TypeId} {size k g : Nat} {t : TypeId} {cs : List Value} {v : Value} {xs : List Value} (ha : Acc w0 X w e size v k xs) (st : St X w0 w ((g, t, cs) :: M)) (hg : ∀ q ∈ ownB v, q ∉ [g]) (ht : M.all (fun x => x.2.1 != e) = true) : ∀ q ∈ ((g, t, cs) :: M).map (·.1), q ∉ ownB v := by
  intro q hq hm
  rcases List.mem_cons.1 (by simpa using hq : q ∈ g :: M.map (·.1)) with rfl | hq
  · exact hg _ hm (by simp)
  · exact Acc.apart ha (st.sub (M' := M) [] (List.sublist_cons_self _ _)) ht q hq hm
theorem ef_storeO {t e : TypeId} {x y : Operand} {size k c o q : Nat} {b : Option Addr} {v : Value} {xs vs : List Value} (ha : Acc w0 X w e size (.slice b k c) k xs) (st : St X w0 w M) (hx : opv m x = some (.pointer (some ⟨sp b, o, none⟩))) (hy : opv m y = some v)
    (hvs : v.cells.toList = vs) (hsz : ∀ w, (sizeOf t).run P w = .ok q w) (hq : vs.length = q) (hq0 : 0 < q) (hlt : o + q ≤ xs.length) (hone : vs.all (·.oneCell) = true) (hdis : ∀ q ∈ M.map (·.1), q ∉ ownB (.slice b k c)) :
    Ef P m ⟨dst, .store t x y, ty, pos, af, gd⟩ w fun r W => r = none ∧ Acc w0 X W e size (.slice b k c) k (over_ xs o vs) ∧ St X w0 W M ∧ Ext (ownB (.slice b k c)) w W := fun ρ hρ => by
  rcases ha.own.2 with ⟨_, hk⟩ | ⟨g, cap, cur, hv, hb, hh, hkc, hcm, hcs, htk⟩
  · have := ha.own.1; rw [hk, Nat.zero_mul] at this; omega
  · injection hv with hb1 _ hc1
    subst hb1; subst hc1
    have hxl : xs.length ≤ cur.size := by rw [← htk]; simp only [List.length_take, Array.length_toList]; omega
    have hB : Blk w g e cur.toList.toArray := by simpa [Blk] using hh
    obtain ⟨W, h1, h2, h3⟩ := run_storeCells (P := P) vs cur.toList o 0 w hB hone (by simp only [Array.length_toList]; omega)
    have hX : Ext (ownB (.slice (some ⟨g, 0, none⟩) k c)) w W := h3
    refine .inr (.inl ⟨W, ?_, rfl, ⟨⟨?_, .inr ⟨g, c, (over_ cur.toList o vs).toArray, rfl, hb, h2, hkc, hcm, ?_, ?_⟩⟩, ha.inn⟩, st.call hX hdis ha.inn, hX⟩)
    · have e : v.cells = vs.toArray := by rw [← hvs]
      simp only [execOp, Instr.storeAt, Instr.sureAddr, storeVar, hρ.get hx, hρ.get hy, e, sp]
      simp [hsz w, hq, h1]
    · rw [over_len]; exact ha.own.1
    · simp only [List.size_toArray, over_len, Array.length_toList]; exact hcs
    · rw [over_take _ _ _ _ (by have := ha.own.1; omega) (by simp only [Array.length_toList]; rw [← ha.own.1]; exact hxl), htk]
theorem ev_indexO {t e : TypeId} {size k c : Nat} {b : Option Addr} {x ix : Operand} {i : Nat} (hT : IdxT P t e size) (hx : opv m x = some (.slice b k c)) (hi : opv m ix = some (.int .i64 (i : Nat)))
    (hb : b = some ⟨sp b, 0, none⟩) (hk : i < k) : Ev P m ⟨dst, .indexAddr t x ix, ty, pos, af, gd⟩ w (.pointer (some ⟨sp b, i * size, none⟩)) := fun ρ hρ => by
  simp only [execOp, hρ.get hx, hρ.get hi]
  rw [hb]
  have hs := hT.s w
  simp [Instr.indexAt, asIntOf, run_underlying hT.u, hk, hs, Addr.add, sp]
  exact fun h => h.symm
theorem Acc.of_new {e : TypeId} {size j g : Nat} {ns : List Value} (st : St X w0 w M) (i : Nat) (hi : M[i]? = some (g, e, ns)) (hl : ns.length = j * size) (hj : j ≤ maxLen) (hg : w0.heap.size ≤ g) : Acc w0 X w e size (.slice (some ⟨g, 0, none⟩) j j) j ns :=
  ⟨⟨hl, .inr ⟨g, j, ns.toArray, rfl, Nat.zero_le _, st.get i hi, Nat.le_refl _, hj, by simpa using hl, by rw [← hl]; simp⟩⟩, fun q hq => by
    simp [ownB, Value.ownBlock] at hq; subst hq; exact .inr hg⟩
theorem ev_shl {k yk : IntKind} {x y : Operand} {a : Int} {s : Nat} {t t' : TypeId} (hx : opv m x = some (.int k a)) (hy : opv m y = some (.int yk (s : Nat))) : Ev P m ⟨dst, .binOp .shl t x y t', ty, pos, af, gd⟩ w (.int k (k.wrap (a * 2 ^ (min s k.bits)))) := fun ρ hρ => by
  simp only [execOp, hρ.get hx, hρ.get hy]
  have hs : ¬ ((s : Nat) : Int) < 0 := by omega
  simp [eqGuard, binOp, Op.shift, hs]
end
theorem word_snoc : ∀ (l : List UInt8) (x : UInt8), keyWords.word (l ++ [x]) = keyWords.word l + 256 ^ l.length * (x.toNat : Int)
  | [], x => by simp [keyWords.word]
  | c :: l, x => by
    have := word_snoc l x
    simp only [List.cons_append, keyWords.word, List.length_cons, Int.pow_succ, this]
    rw [Int.mul_add, ← Int.mul_assoc, Int.mul_comm 256 (256 ^ l.length)]; omega
/-- the words of a key, one byte more -/
theorem keyWords_snoc (x : UInt8) : ∀ (k : Nat) (l : List UInt8), l.length = k → (l.length % 8 = 0 → keyWords (l ++ [x]) = keyWords l ++ [(x.toNat : Int)]) ∧
    (l.length % 8 ≠ 0 → ∃ a z, keyWords l = a ++ [z] ∧ keyWords (l ++ [x]) = a ++ [z + 256 ^ (l.length % 8) * (x.toNat : Int)] ∧ 0 ≤ z ∧ z < 256 ^ (l.length % 8)) := by
  intro k
  induction k using Nat.strongRecOn with
  | _ k ih =>
    intro l hl
    rcases Nat.lt_or_ge l.length 8 with h | h
    · constructor
      · intro h0
        have : l = [] := List.eq_nil_of_length_eq_zero (by omega)
        subst this
        simp [keyWords, keyWords.word]
      · intro h0
        have hpos : 0 < l.length := by omega
        have e1 : keyWords l = [keyWords.word l] := by
          rw [keyWords_cons hpos, List.take_of_length_le (by omega), List.drop_of_length_le (by omega)]; simp [keyWords]
        have e2 : keyWords (l ++ [x]) = [keyWords.word (l ++ [x])] := by
          rw [keyWords_cons (by simp), List.take_of_length_le (by simp; omega), List.drop_of_length_le (by simp; omega)]; simp [keyWords]
        have hm : l.length % 8 = l.length := Nat.mod_eq_of_lt h
        refine ⟨[], keyWords.word l, by simpa using e1, ?_, word_nonneg l, ?_⟩
        · rw [e2, word_snoc, hm]; rfl
        · rw [hm]; exact word_lt l
    · have hd := ih (l.drop 8).length (by simp only [List.length_drop]; omega) (l.drop 8) rfl
      have e0 : keyWords l = keyWords.word (l.take 8) :: keyWords (l.drop 8) := keyWords_cons (by omega)
      have e1 : keyWords (l ++ [x]) = keyWords.word (l.take 8) :: keyWords (l.drop 8 ++ [x]) := by
        rw [keyWords_cons (by simp), List.take_append_of_le_length (by omega), List.drop_append_of_le_length (by omega)]
      have hm : (l.drop 8).length % 8 = l.length % 8 := by simp only [List.length_drop]; omega
      constructor
      · intro h0
        rw [e0, e1, hd.1 (by omega)]; rfl
      · intro h0
        obtain ⟨a, z, h1, h2, h3, h4⟩ := hd.2 (by omega)
        rw [hm] at h2 h4
        exact ⟨keyWords.word (l.take 8) :: a, z, by rw [e0, h1]; rfl, by rw [e1, h2]; rfl, h3, h4⟩
def wordCells (l : List Int) : List Value := l.map (fun x => .int .u64 x)
theorem wordCells_at {l : List Int} {x : Int} {n : Nat} (h : l[n]? = some x) : (wordCells l)[n * 1]? = some (.int .u64 x) := by simp [wordCells, h]
theorem wordCells_len (l : List Int) : (wordCells l).length = l.length * 1 := by simp [wordCells]
end Go.Proofs.YtcopemgkjbaaeaaDoor
