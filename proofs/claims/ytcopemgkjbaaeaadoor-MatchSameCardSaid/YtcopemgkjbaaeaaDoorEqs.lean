/-
  == of the program's structs.
-/
import Derived.Test.YtcopemgkjbaaeaaDoorSp
import Derived.Laws.StructEq
import Derived.ChangeKeysEq
namespace Go.Proofs.YtcopemgkjbaaeaaDoor
set_option linter.all false
open Go.RowKit

section
variable {P : Program} {m : SM} {w : World} {dst : Option Nat} {ty : TypeId} {pos : String} {af : Array Edge} {gd : Option (Nat × Bool)}
/-- values of this type are compared so -/
def EqB (P : Program) (t : TypeId) (k : Nat) (x y : Value) (b : Bool) : Prop := ∀ d w, (Op.equalIn (d + k) t x y).run P w = .ok b w
theorem EqB.up {t : TypeId} {k : Nat} {x y : Value} {b : Bool} (h : EqB P t k x y b) (j : Nat) : EqB P t (k + j) x y b := fun d w => by rw [show d + (k + j) = d + j + k from by omega]; exact h _ w
theorem eqf_last {d : Nat} {xs ys : Array Value} {f : Field} {a b : Value} {r : Bool} (hn : (f.name == "_") = false) (ha : (part f.type xs f.offset).run P w = .ok a w) (hb : (part f.type ys f.offset).run P w = .ok b w) (he : (Op.equalIn d f.type a b).run P w = .ok r w) : (Op.eqFields d xs ys [f]).run P w = .ok r w := by
  have hn' : f.name ≠ "_" := by simpa using hn
  simp only [Op.eqFields, if_pos hn', Sem.run_bind, ha, hb, he, Result.andThen_ok]
  cases r <;> simp
theorem eqf_cons {d : Nat} {xs ys : Array Value} {f : Field} {fs : List Field} {a b : Value} {r s : Bool} (hn : (f.name == "_") = false) (ha : (part f.type xs f.offset).run P w = .ok a w) (hb : (part f.type ys f.offset).run P w = .ok b w) (he : (Op.equalIn d f.type a b).run P w = .ok r w) (hr : (Op.eqFields d xs ys fs).run P w = .ok s w) : (Op.eqFields d xs ys (f :: fs)).run P w = .ok (r && s) w := by
  have hn' : f.name ≠ "_" := by simpa using hn
  rw [Op.eqFields]
  simp only [if_pos hn', Sem.run_bind, ha, hb, he, Result.andThen_ok]
  cases r
  · simp
  · simpa using hr
theorem eqA {t : TypeId} {fs : Array Field} {k : Nat} {xs ys : Array Value} {r : Bool} (hu : P.underlying t = some (.struct fs)) (hp : P.stoodInHeld t = false) (h : ∀ d w, (Op.eqFields (d + k) xs ys fs.toList).run P w = .ok r w) : EqB P t (k + 1) (.agg xs) (.agg ys) r := fun d w => by
  have hf : P.fieldsOf t = fs := by simp [Program.fieldsOf, hu]
  rw [show d + (k + 1) = (d + k) + 1 from by omega, run_equalIn_struct (P := P) w (d + k) t xs ys (by rw [hf]; exact hu) hp, hf]
  exact h d w
theorem eqI {t : TypeId} {k k' : IntKind} {a b : Int} (h : P.underlying t = some (.int k')) : EqB P t 1 (.int k a) (.int k b) (a == b) := fun d w => run_equalIn_int (P := P) w d t k k' a b h
theorem eqBo {t : TypeId} {a b : Bool} (h : P.underlying t = some .bool) : EqB P t 1 (.bool a) (.bool b) (a == b) := fun d w => run_equalIn_bool' (P := P) w d t a b h
theorem eqS {t : TypeId} {a b : ByteArray} (h : P.underlying t = some .string) : EqB P t 1 (.string a) (.string b) (a.toList == b.toList) := fun d w => run_equalIn_string (P := P) w d t a b h
theorem ev_eql {t t' : TypeId} {x y : Operand} {xs ys : Array Value} {b : Bool} {k : Nat} (h : EqB P t k (.agg xs) (.agg ys) b) (hk : k ≤ 10000) (hm : P.eqGuardType P.depth t = false) (hx : opv m x = some (.agg xs)) (hy : opv m y = some (.agg ys)) :
    Ev P m ⟨dst, .binOp .eql t x y t', ty, pos, af, gd⟩ w (.bool b) := fun ρ hρ => by
  have h1 := run_eqGuard_agg (P := P) w .eql t x y xs ys hm
  have h2 := h (10000 - k) w
  rw [show 10000 - k + k = 10000 from by omega] at h2
  simp only [execOp, hρ.get hx, hρ.get hy]
  simp [h1, run_eql_struct, h2]
theorem ev_neq {t t' : TypeId} {x y : Operand} {xs ys : Array Value} {b : Bool} {k : Nat} (h : EqB P t k (.agg xs) (.agg ys) b) (hk : k ≤ 10000) (hm : P.eqGuardType P.depth t = false) (hx : opv m x = some (.agg xs)) (hy : opv m y = some (.agg ys)) :
    Ev P m ⟨dst, .binOp .neq t x y t', ty, pos, af, gd⟩ w (.bool !b) := fun ρ hρ => by
  have h1 := run_eqGuard_agg (P := P) w .neq t x y xs ys hm
  have h2 := h (10000 - k) w
  rw [show 10000 - k + k = 10000 from by omega] at h2
  simp only [execOp, hρ.get hx, hρ.get hy]
  simp [h1, run_neq_struct, h2]
end
theorem eqSum (a b c d : Int) : EqB Tryd.prog 30 2 (.agg #[.int .u64 a, .int .u64 b]) (.agg #[.int .u64 c, .int .u64 d]) (a == c && b == d) := fun k w => by
  have hu : (Tryd.prog).underlying 30 = some (.array 2 28) := by kernel_rfl
  have hi : (Tryd.prog).info? 28 = some Tryd.t28 := by kernel_rfl
  have hk : (Tryd.prog).underlying 28 = some (.int .u64) := by kernel_rfl
  have hc : (Tryd.prog).cellsOf 28 = 1 := by kernel_rfl
  rw [show k + 2 = (k + 1) + 1 from rfl, run_equalIn_array w (k + 1) _ _ hu hi, hc]
  have p0 : ∀ (x y : Int) (w : World), (part 28 #[.int .u64 x, .int .u64 y] 0).run Tryd.prog w = .ok (.int .u64 x) w := fun x y w => by kernel_rfl
  have p1 : ∀ (x y : Int) (w : World), (part 28 #[.int .u64 x, .int .u64 y] 1).run Tryd.prog w = .ok (.int .u64 y) w := fun x y w => by kernel_rfl
  have e : ∀ (x y : Int) (w : World), (Op.equalIn (k + 1) 28 (.int .u64 x) (.int .u64 y)).run Tryd.prog w = .ok (x == y) w := fun x y w => eqI hk k w
  simp only [show List.range 2 = [0, 1] from rfl, Op.eqItems, Sem.run_bind, p0, p1, e, Result.andThen_ok]
  cases (a == c) <;> cases h : (b == d) <;> simp [p1, e, Op.eqItems, h]
def Tal.eq (s t : Tal) : Bool := s.k == t.k && (s.a == t.a && s.b == t.b)
theorem eqTal (s t : Tal) : EqB Tryd.prog 32 3 s.v t.v (Tal.eq s t) :=
  eqA (k := 2) (fs := #[⟨"Count", 3, 0, false, "", "", 0⟩, ⟨"Sum", 30, 1, false, "", "", 8⟩]) (by kernel_rfl) (by kernel_rfl) fun d w =>
    eqf_cons (a := .int .i64 s.k) (b := .int .i64 t.k) rfl (by kernel_rfl) (by kernel_rfl) ((eqI (k' := .i64) (by kernel_rfl)).up 1 d w) (eqf_last (a := .agg #[.int .u64 s.a, .int .u64 s.b]) (b := .agg #[.int .u64 t.a, .int .u64 t.b]) rfl (by kernel_rfl) (by kernel_rfl) (eqSum _ _ _ _ d w))
end Go.Proofs.YtcopemgkjbaaeaaDoor
