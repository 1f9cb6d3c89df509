/- The functions of package strings that package title calls: out of the library's contracts. No condition. -/
import Derived.Test.YtcmnepgnkcoiiaaGreatDoorAbCb
import Derived.Test.YtcmnepgnkcoiiaaGreatDoorAbP4
import Derived.Deep.Draws
namespace Go.Ab
set_option linter.unusedVariables false
set_option linter.unusedSimpArgs false
variable {P : Program} {F T : Nat → Nat}
open Go.Lib
/-- a new row of strings -/
theorem rep_row {D : Nat → Prop} {w : World} (hD : ∀ b, D b → b < w.heap.size) (l : List (List UInt8)) (n ty : Nat) (hn : n = l.length) (hl : ∀ q, q ∈ l → q.length < 2 ^ 63) (hn2 : n < 2 ^ 63) :
 Rep (fun _ => none) D (w.alloc (.cells ((l.map fun q => Value.string ⟨q.toArray⟩).toArray) ty)) (.lst 1 (l.map .str)) (.slice (some ⟨w.heap.size, 0, none⟩) n n) := by
 have hc : ∀ (i j : Nat) (c : V), (((l.map V.str)[i]?).bind fun e => e.cells[j]?) = some c → ∃ q, l[i]? = some q ∧ j = 0 ∧ c = .str q := by
  intro i j c h
  cases hq : l[i]? with
  | none => simp [hq] at h
  | some q =>
    simp only [List.getElem?_map, hq, Option.map_some, Option.bind_some, V.cells] at h
    match j, h with
    | 0, h => simp at h; exact ⟨q, rfl, rfl, h.symm⟩
 have hcell : ∀ (i : Nat) (q : List UInt8), l[i]? = some q → (w.alloc (.cells ((l.map fun q => Value.string ⟨q.toArray⟩).toArray) ty)).cell? ⟨w.heap.size, i, none⟩ = some (.string ⟨q.toArray⟩) := by
  intro i q h
  have hi := (List.getElem?_eq_some_iff.1 h).1
  have hv := (List.getElem?_eq_some_iff.1 h).2
  unfold World.cell?
  rw [heap_alloc_self]
  simp [hi, hv]
 have hlen : n = (l.map V.str).length := by simp [hn]
 rw [hlen]
 refine .lst 1 _ _ _ w.heap.size 0 (Nat.le_refl _) (by omega) (fun _ => ⟨rfl, by rw [size_alloc]; omega, fun h => by have := hD _ h; omega⟩) (fun e he => ?_) (fun i j c h => ?_) (fun i j c h => ?_)
 ·obtain ⟨q, _, rfl⟩ := List.mem_map.1 he; rfl
 ·obtain ⟨q, h1, rfl, rfl⟩ := hc i j c h
  rw [show 0 + i * 1 + 0 = i by omega, hcell i q h1]; rfl
 ·obtain ⟨q, h1, rfl, rfl⟩ := hc i j c h
  rw [show 0 + i * 1 + 0 = i by omega, cellD, hcell i q h1]
  exact .str _ (hl q (List.mem_of_getElem? h1))
theorem piece_len {s : List UInt8} : ∀ q, q ∈ pieceF s → q.length ≤ s.length := by
 induction s with
 | nil => intro q hq; simp [pieceF] at hq; simp [hq]
 | cons x r ih =>
   intro q hq
   obtain ⟨p, u, hp⟩ := pieceF_cons r
   simp only [pieceF, hp] at hq ih
   split at hq
   ·simp only [List.mem_cons] at hq
    rcases hq with rfl | hq
    ·simp
    ·have := ih q (by simpa using hq)
     simp; omega
   ·simp only [List.headD_cons, List.tail_cons, List.mem_cons] at hq
    rcases hq with rfl | hq
    ·have := ih p (by simp)
     simp; omega
    ·have := ih q (by simp [hq])
     simp; omega
theorem unbl_suf (s : List UInt8) : trimSuffix s [32] = unbl s := by
 unfold trimSuffix unbl
 rcases List.eq_nil_or_concat s with rfl | ⟨u, x, rfl⟩
 ·rfl
 ·have e1 : hasSuffix (u.concat x) [32] = ((32 : UInt8) == x) := by simp [hasSuffix, List.isSuffixOf, List.isPrefixOf]
  rw [e1]
  by_cases h : x = 32
  ·subst h; simp
  ·have : ((32 : UInt8) == x) = false := by rw [beq_eq_false_iff_ne]; exact fun e => h e.symm
   simp [this, h]
theorem cut_col (s : List UInt8) : cut s [58] = match colF s with | none => (s, [], false) | some i => (s.take i, s.drop (i + 1), true) := by
 have hi : index s [58] = indexByte s 58 := index_one s 58
 rw [ixb_find] at hi
 unfold cut colF
 cases h : s.findIdx? (· == 58) with
 | none =>
   rw [h] at hi
   simp only at hi ⊢
   rw [hi, if_neg (by omega)]
 | some i =>
   rw [h] at hi
   simp only at hi ⊢
   rw [hi, if_pos (by omega)]
   simp
/-- contracts, out of those of the library at a program -/
theorem titc_of {x : Nat} {ty : Nat} (g : gint P x)
 (h1 : ∀ (s sep : ByteArray) (m : Int) (w : World), s.size < 4294967281 → w.cell? ⟨x, 0, none⟩ = some (.int .i64 m) → 1 ≤ sep.size →
  Calls P (F 171) #[.string s, .string sep] w fun e w' => e = .returned (.slice (some ⟨w.heap.size, 0, none⟩) (countB s sep + 1) (countB s sep + 1)) ∧ w' = w.alloc (.cells ((splitB sep 0 (countB s sep) s).map Value.string).toArray ty))
 (h2 : ∀ (s sep : ByteArray) (m : Int) (w : World), s.size < 4294967281 → w.cell? ⟨x, 0, none⟩ = some (.int .i64 m) →
  Calls P (F 172) #[.string s, .string sep] w fun e w' => e = .returned (.tuple #[.string ⟨(cut s.data.toList sep.data.toList).1.toArray⟩, .string ⟨(cut s.data.toList sep.data.toList).2.1.toArray⟩, .bool (cut s.data.toList sep.data.toList).2.2]) ∧ ∃ n, w' = w.drewN n)
 (h3 : ∀ (s p : ByteArray) (w : World), s.size ≤ 9223372036854775807 → Calls P (F 173) #[.string s, .string p] w fun e w' => e = .returned (.string ⟨(trimSuffix s.data.toList p.data.toList).toArray⟩) ∧ w' = w)
 (h4 : ∀ (s : ByteArray) (c : Int) (w : World), Calls P (F 120) #[.string s, .int .u8 c] w fun e w' => e = .returned (.int .i64 (indexByte s.data.toList c.toNat.toUInt8)) ∧ w' = w) : TitC P F := by
 refine ⟨fun s hs => ?_, fun s hs => ?_, fun s hs => ?_, fun s c => ?_⟩
 ·intro D w vs hD hg hl hr
  obtain ⟨u, v, rfl, hu, hv⟩ := vs2 hl hr
  cases hu; cases hv
  obtain ⟨m, hm⟩ := hg x g
  refine (h1 ⟨s.toArray⟩ ⟨([47] : List UInt8).toArray⟩ m w (by simp [ByteArray.size]; omega) hm (by simp [ByteArray.size])).mono ?_
  rintro e w' ⟨rfl, rfl⟩
  have hd := splitB_data ⟨([47] : List UInt8).toArray⟩ 0 (countB ⟨s.toArray⟩ ⟨([47] : List UInt8).toArray⟩) ⟨s.toArray⟩
  have hsp := split_piece s.length s (Nat.le_refl _)
  have hall := splitB_all ⟨([47] : List UInt8).toArray⟩ (by simp [ByteArray.size]) 0 _ ⟨s.toArray⟩ rfl
  have hd2 : (splitB ⟨([47] : List UInt8).toArray⟩ 0 (countB ⟨s.toArray⟩ ⟨([47] : List UInt8).toArray⟩) ⟨s.toArray⟩).map (·.data.toList) = pieceF s := by rw [hd]; exact hsp
  generalize splitB ⟨([47] : List UInt8).toArray⟩ 0 (countB ⟨s.toArray⟩ ⟨([47] : List UInt8).toArray⟩) ⟨s.toArray⟩ = l at *
  have hl2 : l.length = (pieceF s).length := by rw [← hd2, List.length_map]
  have hmap : l.map Value.string = (pieceF s).map fun q => Value.string ⟨q.toArray⟩ := by
   rw [← hd2, List.map_map]
   exact List.map_congr_left fun b _ => rfl
  rw [hmap]
  have hcn := count_le s [47]
  have hcn2 : countB ⟨s.toArray⟩ ⟨([47] : List UInt8).toArray⟩ = count s [47] := rfl
  refine ⟨_, rfl, below_alloc w _, rep_row hD (pieceF s) _ ty (by rw [← hl2, hall]) (fun q hq => by have := piece_len q hq; omega) (by rw [hcn2]; omega)⟩
 ·intro D w vs hD hg hl hr
  obtain ⟨u, v, rfl, hu, hv⟩ := vs2 hl hr
  cases hu; cases hv
  obtain ⟨m, hm⟩ := hg x g
  refine (h2 ⟨s.toArray⟩ ⟨([58] : List UInt8).toArray⟩ m w (by simp [ByteArray.size]; omega) hm).mono ?_
  rintro e w' ⟨rfl, n, rfl⟩
  refine ⟨_, rfl, ?_, ?_⟩
  ·exact ⟨rfl, rfl, rfl, Nat.le_refl _, fun _ _ => rfl⟩
  ·have hc := cut_col s
   show Rep _ _ _ _ (.tuple #[.string ⟨(cut s [58]).1.toArray⟩, .string ⟨(cut s [58]).2.1.toArray⟩, .bool (cut s [58]).2.2])
   rw [hc]
   cases colF s with
   | none =>
     refine .tup _ _ rfl fun i c hi => ?_
     match i, hi with
     | 0, hi => simp at hi; subst hi; exact .str _ (by omega)
     | 1, hi => simp at hi; subst hi; exact .str _ (by simp)
     | 2, hi => simp at hi; subst hi; exact .bool _
   | some k =>
     refine .tup _ _ rfl fun i c hi => ?_
     match i, hi with
     | 0, hi => simp at hi; subst hi; exact .str _ (by rw [List.length_take]; omega)
     | 1, hi => simp at hi; subst hi; exact .str _ (by rw [List.length_drop]; omega)
     | 2, hi => simp at hi; subst hi; exact .bool _
 ·intro D w vs hD hg hl hr
  obtain ⟨u, v, rfl, hu, hv⟩ := vs2 hl hr
  cases hu; cases hv
  refine (h3 ⟨s.toArray⟩ ⟨([32] : List UInt8).toArray⟩ w (by simp [ByteArray.size]; omega)).mono ?_
  rintro e w' ⟨rfl, rfl⟩
  refine ⟨_, rfl, Go.RowKit.Below.refl _ _, ?_⟩
  show Rep _ _ _ _ (.string ⟨(trimSuffix s [32]).toArray⟩)
  rw [unbl_suf]
  refine .str _ ?_
  unfold unbl
  split
  ·simp; omega
  ·omega
 ·intro D w vs hD hg hl hr
  obtain ⟨u, v, rfl, hu, hv⟩ := vs2 hl hr
  cases hu; cases hv
  refine (h4 ⟨s.toArray⟩ c.toNat w).mono ?_
  rintro e w' ⟨rfl, rfl⟩
  refine ⟨_, rfl, Go.RowKit.Below.refl _ _, ?_⟩
  have : ((c.toNat : Nat) : Int).toNat.toUInt8 = c := by simp
  rw [this]
  exact .int _ _
end Go.Ab
