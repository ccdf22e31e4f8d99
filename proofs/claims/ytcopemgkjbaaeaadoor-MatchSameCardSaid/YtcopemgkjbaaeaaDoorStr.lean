/-
  Strings: a byte, a piece of one; words of bytes.
-/
import Derived.Test.YtcopemgkjbaaeaaDoorFo2
import Derived.Laws.BitsLemmas
import Derived.Laws.Bits64
namespace Go.Proofs.YtcopemgkjbaaeaaDoor
set_option linter.all false
open Go.RowKit

section
variable {P : Program} {m : SM} {w : World} {dst : Option Nat} {ty : TypeId} {pos : String} {af : Array Edge} {gd : Option (Nat × Bool)}
theorem ev_sidx {t : TypeId} {s : ByteArray} {x ix : Operand} {i : Nat} {b : UInt8} (ht : P.underlying t = some .string) (hx : opv m x = some (.string s)) (hi : opv m ix = some (.int .i64 (i : Nat))) (hb : s.toList[i]? = some b) :
    Ev P m ⟨dst, .index t x ix, ty, pos, af, gd⟩ w (.int .u8 (b.toNat : Nat)) := fun ρ hρ => by
  rw [ByteArray.toList_eq] at hb
  have hl : i < s.size := by have := (List.getElem?_eq_some_iff.1 hb).1; simpa using this
  have he : s[i] = b := by
    have := (List.getElem?_eq_some_iff.1 hb).2
    rw [← this]; rfl
  simp only [execOp, hρ.get hx, hρ.get hi]
  have := run_index_string (P := P) w t s .i64 (i : Nat) ht
  rw [dif_pos ⟨by omega, by omega⟩] at this
  simp only [Int.toNat_natCast, he] at this
  simp [this]
theorem ev_stail {t : TypeId} {s : ByteArray} {x lo : Operand} {i : Nat} (ht : P.underlying t = some .string) (hx : opv m x = some (.string s)) (hi : opv m lo = some (.int .i64 (i : Nat))) (hl : i ≤ s.size) :
    Ev P m ⟨dst, .slice t x (some lo) none none, ty, pos, af, gd⟩ w (.string (s.extract i s.size)) := fun ρ hρ => by
  simp only [execOp, hρ.get hx, Option.map_some, Option.map_none, hρ.get hi]
  have h2 : (i : Int) ≤ (s.size : Int) := by omega
  simp [Instr.sliceAt, Instr.slice, run_underlying ht, Instr.sliceBounds, Instr.sliceBound, asIntOf]
  intro h; omega
end
theorem toList_tail (s : ByteArray) (i : Nat) : (s.extract i s.size).toList = s.toList.drop i := by
  rw [ByteArray.toList_eq, ByteArray.toList_eq, ByteArray.data_extract, Array.toList_extract]
  simp only [List.extract_eq_drop_take]
  rw [List.take_of_length_le (by simp)]
theorem size_toList (s : ByteArray) : s.toList.length = s.size := by rw [ByteArray.toList_eq]; simp

theorem word_nonneg : ∀ l : List UInt8, 0 ≤ keyWords.word l
  | [] => Int.le_refl _
  | c :: l => by have := word_nonneg l; simp only [keyWords.word]; omega
theorem word_lt : ∀ l : List UInt8, keyWords.word l < 256 ^ l.length
  | [] => by simp [keyWords.word]
  | c :: l => by
    have h1 := word_lt l
    have h2 : c.toNat < 256 := c.toNat_lt
    simp only [keyWords.word, List.length_cons, Int.pow_succ]
    omega
theorem word_step {x : Int} {b : UInt8} (h0 : 0 ≤ x) (h1 : x < 72057594037927936) : bits .or .u64 (IntKind.u64.wrap (x * 2 ^ 8)) (IntKind.u64.wrap (b.toNat : Nat)) = (b.toNat : Int) + 256 * x := by
  have hb : b.toNat < 256 := b.toNat_lt
  rw [IntKind.wrap_u64, IntKind.wrap_u64]
  have e1 : x * 2 ^ 8 % 18446744073709551616 = x * 256 := by
    rw [show (2 : Int) ^ 8 = 256 from rfl]; omega
  have e2 : ((b.toNat : Nat) : Int) % 18446744073709551616 = (b.toNat : Nat) := by omega
  rw [e1, e2]
  rw [bits_join .u64 64 (by decide) (fun n h0 h1 => by rw [IntKind.wrap_u64]; exact Int.emod_eq_of_lt h0 (by simpa using h1)) 8 (x * 256) (b.toNat : Nat) (by omega) (by rw [show (2 : Int) ^ 8 = 256 from rfl]; omega) (by rw [show (2 : Int) ^ 64 = 18446744073709551616 from rfl]; omega) (by omega) (by rw [show (2 : Int) ^ 8 = 256 from rfl]; omega) (by rw [show (2 : Int) ^ 64 = 18446744073709551616 from rfl]; omega)]
  omega
theorem keyWords_cons {l : List UInt8} (h : 0 < l.length) : keyWords l = keyWords.word (l.take 8) :: keyWords (l.drop 8) := by
  cases l with
  | nil => simp at h
  | cons c l => rw [keyWords]
end Go.Proofs.YtcopemgkjbaaeaaDoor
