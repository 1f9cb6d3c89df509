/- Every lowered operation is sound. No condition. -/
import Derived.Test.YtbipjhcnooellaaAbX
namespace Go.Ab
open Go.RowKit
set_option linter.unusedVariables false
set_option linter.unusedSimpArgs false

section
variable {P : Program} {D : Nat → Prop} {n : Nat} {hint : Nat → Nat} {s : St} {G : Ghost} {a : Act} {w : World} {o : Oper} {K : St → Prop} {next : Act → World → Prop} {Q : Exit → Act → World → Prop} {m : Option Nat}

theorem lt_of_dst {d : Nat} (hd : dstOk n o.dst = true) (h : o.dst = some d) : d < n := by
  rw [h] at hd; simpa [dstOk] using hd

theorem low_bin {i : I} (hd : dstOk n o.dst = true) {op : BinOp} {t t' : TypeId} {x y : Operand} (hop : o.op = .binOp op t x y t') (h : lowI P n hint o = some i) : Sound P D n o i := by
  simp only [lowI, hop] at h
  split at h
  · rename_i p q hx hy
    split at h
    · rename_i he
      simp only [Bool.or_eq_true, beq_iff_eq] at he
      split at h
      · simp only [Option.some.injEq] at h; subst h; exact s_bin hd hx hy hop
      · simp only [Option.some.injEq] at h; subst h; exact s_bin hd hx hy hop
      · rename_i hu; simp only [Option.some.injEq] at h; subst h; exact s_eqB hd hx hy he hu hop
      · rename_i e hu
        split at h
        · simp only [Option.some.injEq] at h; subst h; exact s_isnilP hd hx he hu hop
        · split at h
          · rename_i hj
            simp only [Option.some.injEq] at h; subst h
            exact s_ptreq hd hx hy he hu hj hop
          · simp at h
      · rename_i e hu
        split at h
        · simp only [Option.some.injEq] at h; subst h; exact s_isnilS hd hx he hu hop
        · simp at h
      · rename_i k e hu
        split at h
        · simp only [Option.some.injEq] at h; subst h; exact s_isnilM hd hx he hu hop
        · simp at h
      · rename_i fs hu
        split at h
        · simp at h
        · rename_i hgd
          obtain ⟨ks, hk, rfl⟩ := Option.map_eq_some_iff.1 h
          exact s_eqA hd hx hy he hu hk (by simpa using hgd) hop
      · simp at h
    · simp only [Option.some.injEq] at h; subst h; exact s_bin hd hx hy hop
  · simp at h

theorem opds_nil {l : List Operand} (h : opds n l = some []) : l = [] := by
  cases l with
  | nil => rfl
  | cons p r =>
    simp only [opds] at h
    split at h <;> simp at h
theorem opds_cons {l : List Operand} {x : Src} {r : List Src} (h : opds n l = some (x :: r)) : ∃ p q, l = p :: q ∧ opd n p = some x ∧ opds n q = some r := by
  cases l with
  | nil => simp [opds] at h
  | cons p q =>
    simp only [opds] at h
    split at h
    · rename_i u v h1 h2
      simp only [Option.some.injEq, List.cons.injEq] at h
      obtain ⟨rfl, rfl⟩ := h
      exact ⟨p, q, rfl, h1, h2⟩
    · simp at h
theorem opds_two {l : List Operand} {x y : Src} (h : opds n l = some [x, y]) : ∃ p q, l = [p, q] ∧ opd n p = some x ∧ opd n q = some y := by
  obtain ⟨p, r, rfl, h1, h2⟩ := opds_cons h
  obtain ⟨q, r2, rfl, h3, h4⟩ := opds_cons h2
  obtain rfl := opds_nil h4
  exact ⟨p, q, rfl, h1, h3⟩

theorem opds_three {l : List Operand} {x y z : Src} (h : opds n l = some [x, y, z]) : ∃ p q r, l = [p, q, r] ∧ opd n p = some x ∧ opd n q = some y ∧ opd n r = some z := by
  obtain ⟨p, r, rfl, h1, h2⟩ := opds_cons h
  obtain ⟨q, r2, rfl, h3, h4⟩ := opds_two h2
  exact ⟨p, q, r2, rfl, h1, h3, h4⟩

theorem low_call {i : I} (hd : dstOk n o.dst = true) {c : Call} (hop : o.op = .call c) (h : lowI P n hint o = some i) : Sound P D n o i := by
  simp only [lowI, hop] at h
  split at h
  · rename_i f hc
    split at h
    · rename_i hb
      obtain ⟨qs, hq, rfl⟩ := Option.map_eq_some_iff.1 h
      cases hf : (!o.dst.any fun d => decide (hint d = 3))
      · exact s_callV hd hc hb hq hop
      · exact s_callI hd hc hb hq hop
    · split at h
      · rename_i hb
        split at h
        · rename_i x hq
          simp only [Option.some.injEq] at h; subst h
          exact s_noEscape hd hc hb hq hop
        · simp at h
      · simp at h
  · rename_i hc
    split at h
    · rename_i x ha
      obtain ⟨y, hy, rfl⟩ := Option.map_eq_some_iff.1 h
      exact s_sdata hd hy hc ha hop
    · simp at h
  · rename_i hc
    split at h
    · rename_i x y pt it hq hat
      split at h
      · rename_i e hu
        split at h
        · rename_i he
          simp only [Option.some.injEq] at h; subst h
          obtain ⟨p, q, ha, hp, hq'⟩ := opds_two hq
          exact s_ustr hd hq ha hp hq' hc hat hu he hop
        · simp at h
      · simp at h
    · simp at h
  · rename_i hc
    split at h
    · rename_i x ha hat
      obtain ⟨y, hy, rfl⟩ := Option.map_eq_some_iff.1 h
      exact s_lenS hd hy hc ha hat hop
    · rename_i x e ha hat
      obtain ⟨y, hy, rfl⟩ := Option.map_eq_some_iff.1 h
      exact s_lenL hd hy hc ha hat hop
    · simp at h
  · rename_i hc
    split at h
    · rename_i x y t u d ha hat hdst
      split at h
      · rename_i e x' y' he hx hy
        split at h
        · rename_i z zs ti hz hzs hti
          split at h
          · rename_i hcond
            simp only [Option.some.injEq] at h; subst h
            simp only [Bool.and_eq_true, decide_eq_true_eq] at hcond
            obtain ⟨⟨⟨c1, c2⟩, c3⟩, c4⟩ := hcond
            obtain ⟨zv, ⟨i2, hi2, hz2⟩, _, hrep⟩ := zeroOf_rep hzs (fun _ => none) (fun _ => True) default
            obtain rfl : ti = i2 := Option.some.inj (hti.symm.trans hi2)
            have hsz : ti.size = z := by
              simp only [szOf, hti, Option.map_some, Option.some.injEq] at hz; exact hz
            let T : AppT P c z := {
              t := t, u := u, e := e, i := ti, zv := zv
              ht := by rw [← Array.toArray_toList (xs := c.argTypes), hat]
              hu := elemOf_spec he
              hi := hti
              hz := hsz
              hzero := hz2
              hzs := by rw [← hrep.1]; exact c1
              hpos := c2
              hby := c3
              hnu := by
                unfold rowLike at c4
                split at c4
                · rename_i d hu; exact .inr ⟨d, hu⟩
                · rename_i hu; exact .inl hu
                · simp at c4 }
            exact s_app (lt_of_dst hd hdst) hdst T hx hy hc ha hop
          · simp at h
        · simp at h
      · simp at h
    · simp at h
  · rename_i hc
    split at h
    · rename_i x y hq
      simp only [Option.some.injEq] at h; subst h
      have := opds_two hq
      obtain ⟨p, q, ha, hp, hq'⟩ := this
      exact s_mx hd hp hq' hc ha hop
    · rename_i x y z hq
      simp only [Option.some.injEq] at h; subst h
      obtain ⟨p, q, r, ha, hp, hq', hr⟩ := opds_three hq
      exact s_mx3 hd hp hq' hr hc ha hop
    · simp at h
  · rename_i hc
    split at h
    · rename_i x y hq
      simp only [Option.some.injEq] at h; subst h
      obtain ⟨p, q, ha, hp, hq'⟩ := opds_two hq
      exact s_mx hd hp hq' hc ha hop
    · rename_i x y z hq
      simp only [Option.some.injEq] at h; subst h
      obtain ⟨p, q, r, ha, hp, hq', hr⟩ := opds_three hq
      exact s_mx3 hd hp hq' hr hc ha hop
    · simp at h
  · simp at h

/-- EVERY LOWERED OPERATION IS SOUND. -/
theorem lowI_sound {i : I} (hd : dstOk n o.dst = true) (h : lowI P n hint o = some i) : Sound P D n o i := by
  cases hop : o.op
  case binOp op t x y t' => exact low_bin hd hop h
  case call c => exact low_call hd hop h
  case slice t x lo hi mx =>
    cases mx with
    | some m => simp [lowI, hop] at h
    | none =>
      simp only [lowI, hop] at h
      split at h
      · rename_i x' lo' hi' h1 h2 h3
        split at h
        · rename_i hu; simp only [Option.some.injEq] at h; subst h; exact s_slcS hd h1 h2 h3 hu hop
        · rename_i e hu
          obtain ⟨z, hz, rfl⟩ := Option.map_eq_some_iff.1 h
          exact s_slc hd h1 h2 h3 hu hz hop
        · simp at h
      · simp at h
  all_goals simp only [lowI, hop] at h
  all_goals try (simp at h; done)
  case move x =>
    obtain ⟨y, hy, rfl⟩ := Option.map_eq_some_iff.1 h
    exact s_mov hd x hy (.inl hop)
  case assign x =>
    obtain ⟨y, hy, rfl⟩ := Option.map_eq_some_iff.1 h
    exact s_mov hd x hy (.inr hop)
  case pick c x y =>
    split at h
    · rename_i h1 h2 h3
      simp only [Option.some.injEq] at h; subst h
      exact s_pick hd h1 h2 h3 hop
    · simp at h
  case alloc e =>
    split at h
    · rename_i d z h1 h2
      simp only [Option.some.injEq] at h; subst h
      exact s_alloc (lt_of_dst hd h1) h1 h2 hop
    · simp at h
  case box e x =>
    split at h
    · rename_i d z h1 h2
      simp only [Option.some.injEq] at h; subst h
      exact s_box (lt_of_dst hd h1) h1 h2 hop
    · simp at h
  case build t parts =>
    split at h
    · rename_i z ps h1 h2
      split at h
      · rename_i hc
        simp only [Option.some.injEq] at h; subst h
        simp only [Bool.and_eq_true] at hc
        exact s_build hd h1 h2 hc.1 hc.2 hop
      · simp at h
    · simp at h
  case buildSlice t len parts =>
    split at h
    · rename_i z xs h1 h2
      split at h
      · rename_i hc
        simp only [Bool.and_eq_true, decide_eq_true_eq] at hc
        obtain ⟨⟨⟨c1, c2⟩, c3⟩, c4⟩ := hc
        obtain ⟨e, he, hz⟩ := Option.bind_eq_some_iff.1 h1
        have hzero : ∃ zs, zeroOf P e = some zs ∧ zs.length = z := by
          rw [he, Option.bind_some] at c4
          cases hzo : zeroOf P e with
          | none => rw [hzo] at c4; simp at c4
          | some zs => rw [hzo] at c4; simp at c4; exact ⟨zs, rfl, c4⟩
        split at h
        · rename_i d hdst
          split at h
          · rw [he, Option.map_some, Option.some.injEq] at h; subst h
            exact s_mkv (lt_of_dst hd hdst) hdst (elemOf_spec he) hz h2 c1 c2 c3 hzero hop
          · simp only [Option.some.injEq] at h; subst h
            rw [← hdst]
            exact s_mkl hd (elemOf_spec he) hz h2 c1 c2 c3 hzero hop
        · simp at h
      · simp at h
    · simp at h
  case load t x =>
    split at h
    · rename_i z ag y h1 h2 h3
      split at h
      · rename_i hc
        simp only [Option.some.injEq] at h; subst h
        exact s_load hd h3 h1 h2 (by simpa using hc) hop
      · simp at h
    · simp at h
  case store t x v =>
    split at h
    · rename_i z x' v' h1 h2 h3
      split at h
      · rename_i hc
        simp only [Option.some.injEq] at h; subst h
        exact s_store h2 h3 h1 hc hop
      · simp at h
    · simp at h
  case nilCheck x =>
    obtain ⟨y, hy, rfl⟩ := Option.map_eq_some_iff.1 h
    exact s_nchk hd hy hop
  case unOp op t x =>
    obtain ⟨y, hy, rfl⟩ := Option.map_eq_some_iff.1 h
    exact s_un hd hy hop
  case convert t u x =>
    split at h
    · rename_i h1 h2 h3
      split at h
      · rename_i hz
        simp only [Option.some.injEq] at h; subst h
        exact s_touns hd h3 h1 h2 hz hop
      · simp at h
    · rename_i h1 h2 h3
      split at h
      · rename_i z hz
        split at h
        · rename_i hc
          simp only [Option.some.injEq] at h; subst h
          simp only [Bool.and_eq_true] at hc
          exact s_frouns hd h3 h1 h2 hz hc.2 hop
        · simp at h
      · simp at h
    · rename_i h1 h2 h3
      simp only [Option.some.injEq] at h; subst h
      exact s_cvt hd h3 h1 h2 hop
    · rename_i h1 h2 h3
      simp only [Option.some.injEq] at h; subst h
      exact s_cvs hd h3 h1 h2 hop
    · simp at h
  case fieldAddr t x f =>
    split at h
    · rename_i fd y h1 h2
      split at h
      · rename_i hc
        simp only [Option.some.injEq] at h; subst h
        cases hz : szOf P fd.type with
        | none => rw [hz] at hc; simp at hc
        | some z => rw [hz] at hc; exact s_fadr hd h2 h1 hz (by simpa using hc) hop
      · simp at h
    · simp at h
  case field t x f =>
    split at h
    · rename_i fd y h1 h2
      split at h
      · rename_i z ag h3 h4
        split at h
        · rename_i hc
          simp only [Option.some.injEq] at h; subst h
          exact s_field hd h2 h1 h3 h4 (by simpa using hc) hop
        · simp at h
      · simp at h
    · simp at h
  case indexAddr t x i =>
    split at h
    · rename_i x' i' h1 h2
      split at h
      · rename_i e hu
        obtain ⟨z, hz, h⟩ := Option.bind_eq_some_iff.1 h
        split at h
        · rename_i hc
          simp only [Option.some.injEq] at h; subst h
          exact s_iadr hd h1 h2 hu hz hc hop
        · simp at h
      · rename_i m e hu
        obtain ⟨z, hz, rfl⟩ := Option.map_eq_some_iff.1 h
        exact s_iadrA hd h1 h2 hu hz hop
      · simp at h
    · simp at h
  case index t x i =>
    split at h
    · rename_i x' i' h1 h2
      split at h
      · rename_i hu
        simp only [Option.some.injEq] at h; subst h
        exact s_idx hd h1 h2 hu hop
      · rename_i m e hu
        split at h
        · rename_i z ag h3 h4
          split at h
          · rename_i hc
            simp only [Option.some.injEq] at h; subst h
            exact s_idxA hd h1 h2 hu h3 h4 (by simpa using hc) hop
          · simp at h
        · simp at h
      · simp at h
    · simp at h
  case extract x i =>
    obtain ⟨y, hy, rfl⟩ := Option.map_eq_some_iff.1 h
    exact s_ext hd hy hop

end
end Go.Ab
