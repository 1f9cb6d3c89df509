/- Titles: laws for the walks. Rights as plain functions. No condition. -/
import Derived.Test.YtcmnepgnkcoiiaaGreatDoorAbCb
namespace Go.Ab
set_option linter.unusedVariables false
set_option linter.unusedSimpArgs false
open Go.Lib
theorem ixb_has (l : List UInt8) (c : UInt8) : 0 ≤ indexByte l c ↔ l.contains c = true := by
 rw [ixb_find]
 cases h : l.findIdx? (· == c) with
 | none =>
   have h2 := find_none h
   simp only [List.contains_iff_mem]
   constructor
   ·intro h; omega
   ·intro h; exact absurd rfl (h2 c h)
 | some i =>
   obtain ⟨h1, h2, h3⟩ := find_split h
   simp only [List.contains_iff_mem]
   constructor
   ·intro _; rw [h1]; simp
   ·intro _; omega
/-- is the byte ahead of place i a blank -/
def pbAt (s : List UInt8) (i : Nat) : Bool := decide (0 < i) && decide ((s.getD (i - 1) 0).toNat = 32)
theorem eq32 (c : UInt8) : c = 32 ↔ c.toNat = 32 := ⟨fun e => by rw [e]; rfl, fun e => by
 have : c = UInt8.ofNat c.toNat := by simp
 rw [this, e]; rfl⟩
theorem clean_step (s : List UInt8) {i : Nat} (h : i < s.length) : cleanF (pbAt s i) (s.drop i) = (!badB (s.getD i 0) && !(decide ((s.getD i 0).toNat = 32) && pbAt s i) && cleanF (pbAt s (i + 1)) (s.drop (i + 1))) := by
 have e1 : s.getD i 0 = s[i] := by simp [List.getD, h]
 have e2 : pbAt s (i + 1) = decide (s[i].toNat = 32) := by simp [pbAt, List.getD, h]
 rw [List.drop_eq_getElem_cons h, cleanF, e1, e2]
 simp only [eq32]
theorem clean_end (s : List UInt8) (b : Bool) : cleanF b (s.drop s.length) = true := by simp [cleanF]
/- ancestors -/
theorem anc_succ (sp : Int) (s : List UInt8) (i : Nat) : anc sp s (i + 1) = anc sp s i ++ (if s.getD i 0 = 47 then [s.take i] else []) := rfl
def ancV (sp : Int) (l : List (List UInt8)) : List V := l.map fun q => .agg [.int .i64 sp, .str q]
/-- a scope -/
structure Scp where
 k : Int
 sp : Int
 n : List UInt8
def Scp.v (x : Scp) : V := .agg [.int .i64 x.k, .int .i64 x.sp, .str x.n]
def scV (l : List Scp) : List V := l.map Scp.v
/-- the levels of a title, the nearest first -/
def levF (sp : Int) (s : List UInt8) : List Scp := ⟨3, sp, s⟩ :: ((anc sp s s.length).reverse.map fun q => ⟨3, sp, q⟩) ++ [⟨2, sp, []⟩, ⟨1, 0, []⟩]
def covB (a b : Scp) : Bool := if a.k = b.k then (if a.k = 3 then decide (a.sp = b.sp) && decide (a.n = b.n) else if a.k = 2 then decide (a.sp = b.sp) else true) else false
structure Rul where
 al : Bool
 ri : Int
 gr : List UInt8
 sc : Scp
def Rul.v (x : Rul) : V := .agg [.bool x.al, .int .i64 x.ri, .str x.gr, .int .i64 x.sc.k, .int .i64 x.sc.sp, .str x.sc.n]
def ruV (l : List Rul) : List V := l.map Rul.v
def hitB (g : List (List UInt8)) (right : Int) (lv : Scp) (r : Rul) : Bool := decide (r.ri = right) && g.contains r.gr && covB r.sc lv
/-- what the rules say at one level: is there one, and do all allow -/
def atLev (g : List (List UInt8)) (right : Int) (lv : Scp) : List Rul → Bool × Bool → Bool × Bool
 | [], x => x
 | r :: rs, x => atLev g right lv rs (if hitB g right lv r then (true, x.2 && r.al) else x)
def mayL (rs : List Rul) (g : List (List UInt8)) (right : Int) : List Scp → Bool
 | [] => false
 | lv :: l => if (atLev g right lv rs (false, true)).1 then (atLev g right lv rs (false, true)).2 else mayL rs g right l
def mayF (rs : List Rul) (g : List (List UInt8)) (right sp : Int) (s : List UInt8) : Bool :=
 validF sp s && decide (1 ≤ right) && decide (right ≤ 5) && mayL rs g right (levF sp s)
end Go.Ab
