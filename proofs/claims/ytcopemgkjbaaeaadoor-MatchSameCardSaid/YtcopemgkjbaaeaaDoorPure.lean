/-
  Plain data of the program: entries, tallies, the tree of rows, without Go and memory.
-/
import Derived.RowKit3
import Derived.Below
namespace Go.Proofs.YtcopemgkjbaaeaaDoor
set_option linter.all false
open Go.RowKit

def wu (x : Int) : Int := IntKind.u64.wrap x

structure Ent where
  key : ByteArray
  c : Int
  n : Int
  val : ByteArray
  dead : Bool
structure Tal where
  k : Int
  a : Int
  b : Int

def Ent.v (e : Ent) : Value := .agg #[.string e.key, .int .i64 e.c, .int .i64 e.n, .string e.val, .bool e.dead]
def Tal.v (t : Tal) : Value := .agg #[.int .i64 t.k, .int .u64 t.a, .int .u64 t.b]
def Tal.join (s t : Tal) : Tal := ⟨wrap64 (s.k + t.k), wu (s.a + t.a), wu (s.b + t.b)⟩
def Tal.zero : Tal := ⟨0, 0, 0⟩

/-- The tree of rows: an entry, what stands below it and above it. -/
inductive T where
  | nil
  | node (e : Ent) (l r : T)

def T.size : T → Nat
  | .nil => 0
  | .node _ l r => l.size + 1 + r.size
def T.high : T → Nat
  | .nil => 0
  | .node _ l r => 1 + max l.high r.high
def T.isNil : T → Bool
  | .nil => true
  | _ => false
def T.list : T → List Ent
  | .nil => []
  | .node e l r => l.list ++ e :: r.list

/-- what a word does to a lane -/
def stirL (f : Int) (sh : Nat) (s w : Int) : Int :=
  bits .xor .u64 (wu (bits .xor .u64 s w * f)) ((wu (bits .xor .u64 s w * f)).fdiv (2 ^ sh))
/-- the words of a key: eight bytes each, the first one the lowest -/
def keyWords : List UInt8 → List Int
  | [] => []
  | c :: l => word ((c :: l).take 8) :: keyWords ((c :: l).drop 8)
termination_by l => l.length
decreasing_by simp; omega
where word : List UInt8 → Int
  | [] => 0
  | c :: l => (c.toNat : Int) + 256 * word l
def mixWords (key : ByteArray) (c n : Int) : List Int := wu (key.size : Nat) :: keyWords key.toList ++ [wu c, wu n]
def laneA (l : List Int) : Int := l.foldl (stirL 11400714819323198485 29) 2611923443488327891
def laneB (l : List Int) : Int := l.foldl (stirL 14029467366897019727 32) 1376283091369227076
def Ent.tal (e : Ent) : Tal := ⟨1, laneA (mixWords e.key e.c e.n), laneB (mixWords e.key e.c e.n)⟩

/-- the tally that a node bears -/
def T.sum : T → Tal
  | .nil => .zero
  | .node e l r => joinR (joinL l.isNil (T.sum l) e.tal) r.isNil (T.sum r)
where
  joinL : Bool → Tal → Tal → Tal
    | true, _, t => t
    | false, s, t => s.join t
  joinR : Tal → Bool → Tal → Tal
    | s, true, _ => s
    | s, false, t => s.join t

theorem T.high_le_size : ∀ t : T, t.high ≤ t.size
  | .nil => Nat.le_refl _
  | .node _ l r => by have := T.high_le_size l; have := T.high_le_size r; simp only [T.high, T.size]; omega

def T.even (e : Ent) (l r : T) : T :=
  if r.high + 1 < l.high then
    match l with
    | .nil => .nil
    | .node le ll lr =>
      if lr.high ≤ ll.high then .node le ll (.node e lr r)
      else match lr with
        | .nil => .nil
        | .node me ml mr => .node me (.node le ll ml) (.node e mr r)
  else if l.high + 1 < r.high then
    match r with
    | .nil => .nil
    | .node re rl rr =>
      if rl.high ≤ rr.high then .node re (.node e l rl) rr
      else match rl with
        | .nil => .nil
        | .node me ml mr => .node me (.node e l ml) (.node re mr rr)
  else .node e l r

/-- the order of keys -/
def klt (a b : ByteArray) : Bool := Op.bytesLess a.toList b.toList
end Go.Proofs.YtcopemgkjbaaeaaDoor
