/- Source trees: the model, how they lie in memory, what is computed of them. No condition. -/
import Derived.Test.YtbipjhcnooellaaAbSx
namespace Go.Ab
set_option linter.unusedVariables false
set_option linter.unusedSimpArgs false

mutual
inductive Node where
  | mk (kind tag : Int) (text : List UInt8) (kids : List Node) (args : List Arg)
inductive Arg where
  | mk (named : Bool) (name value : List Node)
end
mutual
def Node.cs : Node → List V
  | .mk k t s ks as => [.int .i64 k, .int .i64 t, .str s, .lst 5 (encs ks), .lst 3 (encA as)]
def encs : List Node → List V
  | [] => []
  | n :: r => .agg n.cs :: encs r
def Arg.cs : Arg → List V
  | .mk b n v => [.bool b, .lst 5 (encs n), .lst 5 (encs v)]
def encA : List Arg → List V
  | [] => []
  | n :: r => .agg n.cs :: encA r
end
mutual
def Node.bulk : Node → Nat
  | .mk k t s ks as => s.length + bulks ks + bulkA as + 1
def bulks : List Node → Nat
  | [] => 0
  | n :: r => n.bulk + bulks r
def Arg.bulk : Arg → Nat
  | .mk b n v => bulks n + bulks v + 1
def bulkA : List Arg → Nat
  | [] => 0
  | n :: r => n.bulk + bulkA r
end
mutual
def Node.count : Node → Nat
  | .mk k t s ks as => counts ks + countA as + 1
def counts : List Node → Nat
  | [] => 0
  | n :: r => n.count + counts r
def Arg.count : Arg → Nat
  | .mk b n v => counts n + counts v
def countA : List Arg → Nat
  | [] => 0
  | n :: r => n.count + countA r
end
mutual
def Node.dep : Node → Nat
  | .mk k t s ks as => max (deps ks) (depA as)
def deps : List Node → Nat
  | [] => 0
  | n :: r => max (n.dep + 1) (deps r)
def Arg.dep : Arg → Nat
  | .mk b n v => max (deps n) (deps v)
def depA : List Arg → Nat
  | [] => 0
  | n :: r => max n.dep (depA r)
end
def tagName (t : Int) : List UInt8 := if t = 1 then [110, 111, 105, 110, 99, 108, 117, 100, 101] else if t = 2 then [105, 110, 99, 108, 117, 100, 101, 111, 110, 108, 121] else if t = 3 then [111, 110, 108, 121, 105, 110, 99, 108, 117, 100, 101] else []
mutual
def Node.src : Node → List UInt8
  | .mk k t s ks as =>
    if k = 1 ∨ k = 2 then s
    else if k = 3 then [60, 110, 111, 119, 105, 107, 105, 62] ++ s ++ [60, 47, 110, 111, 119, 105, 107, 105, 62]
    else if k = 4 then [123, 123] ++ srcs ks ++ srcA as ++ [125, 125]
    else if k = 5 then [123, 123, 123] ++ srcs ks ++ srcA as ++ [125, 125, 125]
    else if k = 6 ∧ 1 ≤ t ∧ t ≤ 3 then [60] ++ tagName t ++ [62] ++ srcs ks ++ [60, 47] ++ tagName t ++ [62]
    else []
def srcs : List Node → List UInt8
  | [] => []
  | n :: r => n.src ++ srcs r
def Arg.src : Arg → List UInt8
  | .mk b n v => 124 :: ((if b then srcs n ++ [61] else []) ++ srcs v)
def srcA : List Arg → List UInt8
  | [] => []
  | n :: r => n.src ++ srcA r
end
def plains : List Node → Option (List UInt8)
  | [] => some []
  | .mk k _ s _ _ :: r => if k = 1 ∨ k = 3 then (plains r).map (s ++ ·) else if k = 2 then plains r else none

/-- a list of nodes with a further text -/
def pushT (out : List Node) (s : List UInt8) : List Node :=
  match out.getLast? with
  | some (.mk k _ q _ _) => if k = 1 then out.dropLast ++ [.mk 1 0 (q ++ s) [] []] else out ++ [.mk 1 0 s [] []]
  | none => out ++ [.mk 1 0 s [] []]
mutual
def Node.jn : Node → Node
  | .mk k t s ks as => .mk k t s (joinF [] ks) (joinA as)
def joinF : List Node → List Node → List Node
  | out, [] => out
  | out, n :: r => joinF (n.jstep out) r
def Node.jstep : Node → List Node → List Node
  | .mk k t s ks as, out => if k = 1 then (if s = [] then out else pushT out s) else out ++ [.mk k t s (joinF [] ks) (joinA as)]
def Arg.jn : Arg → Arg
  | .mk b n v => .mk b (joinF [] n) (joinF [] v)
def joinA : List Arg → List Arg
  | [] => []
  | n :: r => n.jn :: joinA r
end

theorem encs_append (a b : List Node) : encs (a ++ b) = encs a ++ encs b := by
  induction a with
  | nil => rfl
  | cons x r ih => simp [encs, ih]
theorem encs_length (a : List Node) : (encs a).length = a.length := by
  induction a with
  | nil => rfl
  | cons x r ih => simp [encs, ih]
theorem encA_append (a b : List Arg) : encA (a ++ b) = encA a ++ encA b := by
  induction a with
  | nil => rfl
  | cons x r ih => simp [encA, ih]
theorem encA_length (a : List Arg) : (encA a).length = a.length := by
  induction a with
  | nil => rfl
  | cons x r ih => simp [encA, ih]
theorem encs_at (a : List Node) (x : Node) (r : List Node) : (encs (a ++ x :: r)).getD a.length .junk = .agg x.cs := by
  rw [encs_append, ← encs_length a, List.getD_eq_getElem?_getD, List.getElem?_append_right (Nat.le_refl _)]; simp [encs]
theorem encA_at (a : List Arg) (x : Arg) (r : List Arg) : (encA (a ++ x :: r)).getD a.length .junk = .agg x.cs := by
  rw [encA_append, ← encA_length a, List.getD_eq_getElem?_getD, List.getElem?_append_right (Nat.le_refl _)]; simp [encA]
mutual
theorem imms_cs : ∀ n : Node, V.imms n.cs = true
  | .mk k t s ks as => by simp [Node.cs, V.imms, V.imm, imms_encs ks, imms_encA as]
theorem imms_encs : ∀ l : List Node, V.imms (encs l) = true
  | [] => by simp [encs, V.imms]
  | n :: r => by simp [encs, V.imms, V.imm, imms_cs n, imms_encs r]
theorem imms_acs : ∀ n : Arg, V.imms n.cs = true
  | .mk b n v => by simp [Arg.cs, V.imms, V.imm, imms_encs n, imms_encs v]
theorem imms_encA : ∀ l : List Arg, V.imms (encA l) = true
  | [] => by simp [encA, V.imms]
  | n :: r => by simp [encA, V.imms, V.imm, imms_acs n, imms_encA r]
end
theorem bulks_append (a b : List Node) : bulks (a ++ b) = bulks a + bulks b := by
  induction a with
  | nil => simp [bulks]
  | cons x r ih => simp [bulks, ih]; omega
theorem bulkA_append (a b : List Arg) : bulkA (a ++ b) = bulkA a + bulkA b := by
  induction a with
  | nil => simp [bulkA]
  | cons x r ih => simp [bulkA, ih]; omega
theorem counts_append (a b : List Node) : counts (a ++ b) = counts a + counts b := by
  induction a with
  | nil => simp [counts]
  | cons x r ih => simp [counts, ih]; omega
theorem countA_append (a b : List Arg) : countA (a ++ b) = countA a + countA b := by
  induction a with
  | nil => simp [countA]
  | cons x r ih => simp [countA, ih]; omega
theorem deps_append (a b : List Node) : deps (a ++ b) = max (deps a) (deps b) := by
  induction a with
  | nil => simp [deps]
  | cons x r ih => simp [deps, ih, Nat.max_assoc]
theorem depA_append (a b : List Arg) : depA (a ++ b) = max (depA a) (depA b) := by
  induction a with
  | nil => simp [depA]
  | cons x r ih => simp [depA, ih, Nat.max_assoc]
theorem srcs_append (a b : List Node) : srcs (a ++ b) = srcs a ++ srcs b := by
  induction a with
  | nil => simp [srcs]
  | cons x r ih => simp [srcs, ih]
theorem srcA_append (a b : List Arg) : srcA (a ++ b) = srcA a ++ srcA b := by
  induction a with
  | nil => simp [srcA]
  | cons x r ih => simp [srcA, ih]
theorem len_bulks : ∀ l : List Node, l.length ≤ bulks l
  | [] => by simp
  | .mk k t s ks as :: r => by have := len_bulks r; simp [bulks, Node.bulk]; omega
theorem len_bulkA : ∀ l : List Arg, l.length ≤ bulkA l
  | [] => by simp
  | .mk b n v :: r => by have := len_bulkA r; simp [bulkA, Arg.bulk]; omega
mutual
theorem count_bulk : ∀ n : Node, n.count ≤ n.bulk
  | .mk k t s ks as => by have := counts_bulks ks; have := countA_bulkA as; simp [Node.count, Node.bulk]; omega
theorem counts_bulks : ∀ l : List Node, counts l ≤ bulks l
  | [] => by simp [counts]
  | n :: r => by have := count_bulk n; have := counts_bulks r; simp [counts, bulks]; omega
theorem acount_bulk : ∀ n : Arg, n.count ≤ n.bulk
  | .mk b n v => by have := counts_bulks n; have := counts_bulks v; simp [Arg.count, Arg.bulk]; omega
theorem countA_bulkA : ∀ l : List Arg, countA l ≤ bulkA l
  | [] => by simp [countA]
  | n :: r => by have := acount_bulk n; have := countA_bulkA r; simp [countA, bulkA]; omega
end
mutual
theorem dep_count : ∀ n : Node, n.dep + 1 ≤ n.count
  | .mk k t s ks as => by have := deps_counts ks; have := depA_countA as; simp [Node.count, Node.dep]; omega
theorem deps_counts : ∀ l : List Node, deps l ≤ counts l
  | [] => by simp [deps]
  | n :: r => by have := dep_count n; have := deps_counts r; simp [counts, deps]; omega
theorem adep_count : ∀ n : Arg, n.dep ≤ n.count
  | .mk b n v => by have := deps_counts n; have := deps_counts v; simp [Arg.count, Arg.dep]; omega
theorem depA_countA : ∀ l : List Arg, depA l ≤ countA l
  | [] => by simp [depA]
  | n :: r => by have := adep_count n; have := depA_countA r; simp [countA, depA]; omega
end
theorem tagName_len (t : Int) : (tagName t).length ≤ 11 := by unfold tagName; split <;> (try split) <;> (try split) <;> simp
mutual
theorem src_bulk : ∀ n : Node, n.src.length ≤ 27 * n.bulk
  | .mk k t s ks as => by
    have h1 := srcs_bulk ks; have h2 := srcA_bulk as; have h3 := tagName_len t
    unfold Node.src Node.bulk
    split
    · omega
    · split
      · simp; omega
      · split
        · simp; omega
        · split
          · simp; omega
          · split
            · simp; omega
            · simp
theorem srcs_bulk : ∀ l : List Node, (srcs l).length ≤ 27 * bulks l
  | [] => by simp [srcs]
  | n :: r => by have := src_bulk n; have := srcs_bulk r; simp [srcs, bulks]; omega
theorem asrc_bulk : ∀ n : Arg, n.src.length ≤ 27 * n.bulk
  | .mk b n v => by have := srcs_bulk n; have := srcs_bulk v; cases b <;> simp [Arg.src, Arg.bulk] <;> omega
theorem srcA_bulk : ∀ l : List Arg, (srcA l).length ≤ 27 * bulkA l
  | [] => by simp [srcA]
  | n :: r => by have := asrc_bulk n; have := srcA_bulk r; simp [srcA, bulkA]; omega
end
attribute [push_cast] encs_length encA_length imms_encs imms_encA encs_at encA_at
end Go.Ab
