/- Titles as plain functions. No condition. -/
import Derived.Test.YtcmnepgnkcoiiaaGreatDoorAbE4
import Derived.Lib.IndexMore
import Derived.Lib.SplitLaws
import Derived.Lib.CountLaws
namespace Go.Ab
set_option linter.unusedVariables false
set_option linter.unusedSimpArgs false
/-- the pieces of a text between its slashes -/
def pieceF : List UInt8 → List (List UInt8)
 | [] => [[]]
 | x :: r => if x = 47 then [] :: pieceF r else (x :: (pieceF r).headD []) :: (pieceF r).tail
theorem pieceF_ne : ∀ s : List UInt8, pieceF s ≠ []
 | [] => by simp [pieceF]
 | x :: r => by simp only [pieceF]; split <;> simp
theorem pieceF_cons (s : List UInt8) : ∃ p q, pieceF s = p :: q := by
 cases h : pieceF s with
 | nil => exact absurd h (pieceF_ne s)
 | cons p q => exact ⟨p, q, rfl⟩
theorem pieceF_no : ∀ {s : List UInt8}, (∀ b, b ∈ s → b ≠ 47) → pieceF s = [s]
 | [], _ => rfl
 | x :: r, h => by
   have ih := pieceF_no (s := r) (fun b hb => h b (by simp [hb]))
   have hx := h x (by simp)
   simp [pieceF, hx, ih]
theorem pieceF_at : ∀ {u v : List UInt8}, (∀ b, b ∈ u → b ≠ 47) → pieceF (u ++ 47 :: v) = u :: pieceF v
 | [], v, _ => by simp [pieceF]
 | x :: r, v, h => by
   have ih := pieceF_at (u := r) (v := v) (fun b hb => h b (by simp [hb]))
   have hx := h x (by simp)
   simp [pieceF, hx, ih]
theorem pieceF_sl : ∀ t : List UInt8, pieceF (t ++ [47]) = pieceF t ++ [[]]
 | [] => by simp [pieceF]
 | x :: r => by
   have ih := pieceF_sl r
   obtain ⟨p, q, hp⟩ := pieceF_cons r
   simp only [List.cons_append, pieceF, ih]
   split
   ·simp
   ·simp [hp]
theorem pieceF_snoc {c : UInt8} (hc : c ≠ 47) : ∀ t : List UInt8, ∃ a b, pieceF t = a ++ [b] ∧ pieceF (t ++ [c]) = a ++ [b ++ [c]]
 | [] => ⟨[], [], by simp [pieceF], by simp [pieceF, hc]⟩
 | x :: r => by
   obtain ⟨a, b, h1, h2⟩ := pieceF_snoc hc r
   simp only [List.cons_append, pieceF, h1, h2]
   by_cases hx : x = 47
   ·simp only [hx, if_true]
    exact ⟨[] :: a, b, by simp, by simp⟩
   ·simp only [hx, if_false]
    cases a with
    | nil => exact ⟨[], x :: b, by simp, by simp⟩
    | cons y a => exact ⟨(x :: y) :: a, b, by simp, by simp⟩
/-- letters A to Z as small ones -/
def lowB (b : UInt8) : UInt8 := if 65 ≤ b.toNat ∧ b.toNat ≤ 90 then UInt8.ofNat (b.toNat + 32) else b
theorem lowB_nat (b : UInt8) : (lowB b).toNat = if 65 ≤ b.toNat ∧ b.toNat ≤ 90 then b.toNat + 32 else b.toNat := by
 unfold lowB
 split
 ·rename_i h; simp; omega
 ·rfl
def lowL (s : List UInt8) : List UInt8 := s.map lowB
def spaceN (n : Nat) : List UInt8 := [[], [84, 97, 108, 107], [85, 115, 101, 114], [84, 101, 109, 112, 108, 97, 116, 101], [67, 97, 116, 101, 103, 111, 114, 121], [80, 114, 111, 106, 101, 99, 116]].getD n []
/-- the text without a blank at its end -/
def unbl (s : List UInt8) : List UInt8 := if s.getLast? = some 32 then s.dropLast else s
/-- the first namespace from n on (k of them) that is named so -/
def nsF (p : List UInt8) : Nat → Nat → Nat
 | 0, _ => 0
 | k + 1, n => if lowL p = lowL (spaceN n) then n else nsF p k (n + 1)
/-- the place of the first colon -/
def colF (s : List UInt8) : Option Nat := s.findIdx? (· == 58)
def prefF (s : List UInt8) : Nat := match colF s with
 | none => 0
 | some i => nsF (unbl (s.take i)) 5 1
/-- which bytes no name has -/
def badB (c : UInt8) : Bool := decide (c.toNat < 32) || decide (c.toNat = 127) || [60, 62, 91, 93, 123, 125, 124, 35, 95].contains c
def cleanF (pb : Bool) : List UInt8 → Bool
 | [] => true
 | c :: r => !badB c && !(decide (c = 32) && pb) && cleanF (decide (c = 32)) r
def goodP (p : List UInt8) : Bool := !decide (p = []) && !decide (p.getD 0 0 = 32) && !decide (p.getD (p.length - 1) 0 = 32)
def headB (s : List UInt8) : Bool := decide ((s.getD 0 0).toNat = 58) || (decide (97 ≤ (s.getD 0 0).toNat) && decide ((s.getD 0 0).toNat ≤ 122))
/-- a valid title -/
def validF (sp : Int) (s : List UInt8) : Bool :=
 decide (0 ≤ sp) && decide (sp < 6) && decide (1 ≤ s.length) && decide (s.length ≤ 100) && cleanF false s && (pieceF s).all goodP && !headB s && (!decide (sp = 0) || decide (prefF s = 0))
/-- the places of the slashes, from i on -/
def anc (sp : Int) (s : List UInt8) : Nat → List (List UInt8)
 | 0 => []
 | i + 1 => anc sp s i ++ (if s.getD i 0 = 47 then [s.take i] else [])
end Go.Ab
