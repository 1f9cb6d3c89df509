/- Several texts of one kind, merged. No condition. -/
import Derived.Test.YtchchhmmaioffaaDoorAbZ1
import Derived.Test.YtchchhmmaioffaaDoorAbR7
import Derived.Test.YtchchhmmaioffaaDoorAbZ2
import Derived.Test.YtchchhmmaioffaaDoorAbR3
import Derived.Test.YtchchhmmaioffaaDoorAbK4
/- SectionNests, SectionSame: made texts. No condition. -/
namespace Go.Ab
set_option linter.unusedVariables false
set_option linter.unusedSimpArgs false

variable {P : Program} {F T : Nat → Nat}
open Go.Lib

theorem ptr_len2 {f : Nat} {sz : Nat} {es : List V} {y r : V} (h : es.length < 2 ^ 63 → PTr P f [.lst sz es, y] r) : PTr P f [.lst sz es, y] r := by
  intro D w vs hD hg hn hr
  have h0 := hr 0 (.lst sz es) rfl
  have hl : es.length < 2 ^ 63 := by
    revert h0
    generalize vs.getD 0 undef = v
    intro h0
    cases h0
    omega
  exact h hl D w vs hD hg hn hr
theorem scan_long (hf : Is56 P F T) (s : List UInt8) (hs : 8192 < s.length) : PTr P (F 56) [.str s] (.tup [.nils, .int .i64 3]) := by
  refine ptrC [] hf (by simp) rfl ?_
  have h : (8192 : Int) < (s.length : Nat) := by omega
  simp only [c56, push_cast, seval, -Nat.reducePow, decide_true, decide_false, h, view]
theorem parse_long (hf : Is36 P F T) (h56 : Is56 P F T) (s : List UInt8) (hs : 8192 < s.length) : PTr P (F 36) [.str s] (.tup [.nils, .int .i64 3]) := by
  refine ptrC [] hf (by simp) rfl ?_
  simp only [c36, push_cast, seval, -Nat.reducePow, decide_true, decide_false]
  refine callK_intro (scan_long h56 s hs) (by simp only [push_cast, seval, -Nat.reducePow, decide_true, decide_false]) (by simp only [push_cast, seval, -Nat.reducePow, decide_true, decide_false]) ?_
  simp only [push_cast, seval, -Nat.reducePow, decide_true, decide_false, view]
theorem plain_long (hf : Is136 P F T) (h36 : Is36 P F T) (h56 : Is56 P F T) (s : List UInt8) (hs : 8192 < s.length) : PTr P (F 136) [.str s] (.tup [.nils, .int .i64 3]) := by
  refine ptrC [] hf (by simp) rfl ?_
  simp only [c136, push_cast, seval, -Nat.reducePow, decide_true, decide_false]
  refine callK_intro (parse_long h36 h56 s hs) (by simp only [push_cast, seval, -Nat.reducePow, decide_true, decide_false]) (by simp only [push_cast, seval, -Nat.reducePow, decide_true, decide_false]) ?_
  simp only [push_cast, seval, -Nat.reducePow, decide_true, decide_false, view]
theorem sect_long (hf : Is124 P F T) (h136 : Is136 P F T) (h36 : Is36 P F T) (h56 : Is56 P F T) (s : List UInt8) (hs : 8192 < s.length) : PTr P (F 124) [.str s] (.tup [.nils, .int .i64 3]) := by
  refine ptrC [] hf (by simp) rfl ?_
  simp only [c124, push_cast, seval, -Nat.reducePow, decide_true, decide_false]
  refine callK_intro (plain_long h136 h36 h56 s hs) (by simp only [push_cast, seval, -Nat.reducePow, decide_true, decide_false]) (by simp only [push_cast, seval, -Nat.reducePow, decide_true, decide_false]) ?_
  simp only [push_cast, seval, -Nat.reducePow, decide_true, decide_false, view]
theorem part_at {l : List Sec} {n : Nat} (h : n < l.length) : partS l n = l[n] ∧ partE l n = 0 := by
  constructor
  · unfold partS
    rw [if_pos (by omega)]
    simp [List.getD, h]
  · unfold partE
    rw [if_pos (by omega)]
theorem endB_last {t : List UInt8} (h : t.getLast? = some 10) : endB t = true := by
  rw [List.getLast?_eq_getElem?] at h
  simp only [endB, List.getD, h]
  decide
theorem repl_same {s : List UInt8} {n : Nat} (h : n < (sectF s).length) (hs : s.length ≤ 8192) : replF s n (textF s n) = (s, 0) := by
  obtain ⟨p1, p2⟩ := part_at h
  have ok := sect_ok s _ (List.getElem_mem h)
  have hn : newT s (textF s n) (partS (sectF s) n) = textF s n := by
    unfold newT
    rw [if_neg]
    rintro ⟨h1, h2, h3⟩
    rw [p1] at h3
    have := endB_last (same_end ok h3)
    rw [textF, p1, this] at h2
    cases h2
  have hl : (textF s n).length = (sectF s)[n].to - (sectF s)[n].fr := by
    rw [textF, p1, List.length_drop, List.length_take]
    have := ok.to
    omega
  have := ok.bd
  have := ok.le
  have := ok.to
  unfold replF
  rw [if_pos p2, hn, p1, hl, if_neg (by omega)]
  have e := same_text ok
  rw [textF, p1, e]
theorem law133 (hf : Is133 P F T) (S : StrC P F) (K : TC2 P F T) (h39 : Is39 P F T) (h124 : SectC P (F 124)) (i124 : Is124 P F T) (i136 : Is136 P F T) (i36 : Is36 P F T) (i56 : Is56 P F T) (h132 : Is132 P F T) (h134 : Is134 P F T) (h141 : Is141 P F T) (kn : PTr P (F 126) [] (.bool true))
    (es : List V) (hi : V.imms es = true) (hes : ∀ e, e ∈ es → ∃ m, e = .int .i64 m) (i : Int) : PTr P (F 133) [.lst 1 es, .int .i64 i] (.bool true) := by
  refine ptr_len2 fun hl => ?_
  obtain ⟨k, hk, hv⟩ := and_small i 65535 (by omega)
  have hv' : vbits .and .i64 i 65535 = (k : Int) := hv
  refine ptrC [] hf (by simp [hi]) rfl ?_
  simp only [c133, push_cast, seval, -Nat.reducePow, decide_true, decide_false]
  refine ecallK_intro (n39 h39 es hi hes hl) ?_
  rintro v L0 n0 ⟨p, rfl, hp, hn, hT⟩
  refine ecallK_intro (n40 K 2 (by omega) hT (by omega)) ?_
  rintro v L1 n1 ⟨s, rfl, hq, hT1⟩
  by_cases hbig : 8192 < s.length
  · have h1 : (1500 : Int) < (s.length : Nat) := by omega
    refine callK_intro (sect_long i124 i136 i36 i56 s hbig) (by simp only [push_cast, seval, -Nat.reducePow, decide_true, decide_false]) (by simp only [push_cast, seval, -Nat.reducePow, decide_true, decide_false]) ?_
    simp only [push_cast, seval, -Nat.reducePow, decide_true, decide_false, h1]
    refine callK_intro kn (by simp only [push_cast, seval, -Nat.reducePow, decide_true, decide_false]) (by simp only [push_cast, seval, -Nat.reducePow, decide_true, decide_false]) ?_
    simp only [push_cast, seval, -Nat.reducePow, decide_true, decide_false, view]
  · refine callK_intro (h124 s (by omega)) (by simp only [push_cast, seval, -Nat.reducePow, decide_true, decide_false]) (by simp only [push_cast, seval, -Nat.reducePow, decide_true, decide_false, secV_imm]) ?_
    simp only [push_cast, seval, -Nat.reducePow, decide_true, decide_false]
    by_cases h1 : 1500 < s.length
    · have h1' : (1500 : Int) < (s.length : Nat) := by omega
      simp only [push_cast, seval, -Nat.reducePow, decide_true, decide_false, h1']
      refine callK_intro kn (by simp only [push_cast, seval, -Nat.reducePow, decide_true, decide_false]) (by simp only [push_cast, seval, -Nat.reducePow, decide_true, decide_false]) ?_
      simp only [push_cast, seval, -Nat.reducePow, decide_true, decide_false, view]
    · have h1' : ¬ (1500 : Int) < (s.length : Nat) := by omega
      have hsl := secV_len (sectF s)
      by_cases h0 : (sectF s).length = 0
      · have h0' : (((secV (sectF s)).length : Nat) : Int) = 0 := by omega
        simp only [push_cast, seval, -Nat.reducePow, decide_true, decide_false, h1', h0']
        refine callK_intro kn (by simp only [push_cast, seval, -Nat.reducePow, decide_true, decide_false]) (by simp only [push_cast, seval, -Nat.reducePow, decide_true, decide_false]) ?_
        simp only [push_cast, seval, -Nat.reducePow, decide_true, decide_false, view]
      · have h0' : ¬ (((secV (sectF s)).length : Nat) : Int) = 0 := by omega
        obtain ⟨n, hnd⟩ : ∃ n, n = k % (sectF s).length := ⟨_, rfl⟩
        have hnl : n < (sectF s).length := by rw [hnd]; exact Nat.mod_lt _ (by omega)
        have ht : ((k : Nat) : Int).tmod ((secV (sectF s)).length : Nat) = ((n : Nat) : Int) := by rw [hsl, hnd, Int.tmod_eq_emod_of_nonneg (by omega)]; simp
        simp only [push_cast, seval, -Nat.reducePow, decide_true, decide_false, h1', h0', hv', ht]
        have c1 := t132 h132 h141 h124 s (by omega) n
        rw [(part_at hnl).2] at c1
        have htl : (textF s n).length ≤ s.length := by
          rw [textF, List.length_drop, List.length_take]; omega
        have c2 := t134 h134 S h141 h124 s (by omega) n (textF s n) (by omega)
        rw [repl_same hnl (by omega)] at c2
        refine callK_intro c1 (by simp only [push_cast, seval, -Nat.reducePow, decide_true, decide_false]) (by simp only [push_cast, seval, -Nat.reducePow, decide_true, decide_false]) ?_
        simp only [push_cast, seval, -Nat.reducePow, decide_true, decide_false, ht]
        refine callK_intro c2 (by simp only [push_cast, seval, -Nat.reducePow, decide_true, decide_false]) (by simp only [push_cast, seval, -Nat.reducePow, decide_true, decide_false]) ?_
        simp only [push_cast, seval, -Nat.reducePow, decide_true, decide_false]
        refine callK_intro kn (by simp only [push_cast, seval, -Nat.reducePow, decide_true, decide_false]) (by simp only [push_cast, seval, -Nat.reducePow, decide_true, decide_false]) ?_
        simp only [push_cast, seval, -Nat.reducePow, decide_true, decide_false, view]
theorem law130 (hf : Is130 P F T) (K : TC2 P F T) (h39 : Is39 P F T) (h124 : SectC P (F 124)) (h131 : Is131 P F T) (h132 : Is132 P F T) (h141 : Is141 P F T) (kn : PTr P (F 126) [] (.bool true))
    (es : List V) (hi : V.imms es = true) (hes : ∀ e, e ∈ es → ∃ m, e = .int .i64 m) : PTr P (F 130) [.lst 1 es] (.bool true) := by
  refine ptr_len fun hl => ?_
  refine ptrC [] hf (by simp [hi]) rfl ?_
  simp only [c130, push_cast, seval, -Nat.reducePow, decide_true, decide_false]
  refine ecallK_intro (n39 h39 es hi hes hl) ?_
  rintro v L0 n0 ⟨p, rfl, hp, hn, hT⟩
  refine ecallK_intro (n40 K 2 (by omega) hT (by omega)) ?_
  rintro v L1 n1 ⟨s, rfl, hq, hT1⟩
  simp only [push_cast, seval, -Nat.reducePow, decide_true, decide_false]
  by_cases h1 : 1500 < s.length
  · have h1' : (1500 : Int) < (s.length : Nat) := by omega
    simp only [push_cast, seval, -Nat.reducePow, decide_true, decide_false, h1']
    refine callK_intro kn (by simp only [push_cast, seval, -Nat.reducePow, decide_true, decide_false]) (by simp only [push_cast, seval, -Nat.reducePow, decide_true, decide_false]) ?_
    simp only [push_cast, seval, -Nat.reducePow, decide_true, decide_false, view]
  · have h1' : ¬ (1500 : Int) < (s.length : Nat) := by omega
    simp only [push_cast, seval, -Nat.reducePow, decide_true, decide_false, h1']
    refine callK_intro (h124 s (by omega)) (by simp only [push_cast, seval, -Nat.reducePow, decide_true, decide_false]) (by simp only [push_cast, seval, -Nat.reducePow, decide_true, decide_false, secV_imm]) ?_
    simp only [push_cast, seval, -Nat.reducePow, decide_true, decide_false]
    refine callK_intro (t131 h131 h124 s (by omega)) (by simp only [push_cast, seval, -Nat.reducePow, decide_true, decide_false]) (by simp only [push_cast, seval, -Nat.reducePow, decide_true, decide_false]) ?_
    simp only [push_cast, seval, -Nat.reducePow, decide_true, decide_false]
    have hok := sect_ok s
    have hne := sect_nest s
    have hnx := sect_next s
    have hll := sect_len s
    have hsl := secV_len (sectF s)
    have htx : ∀ i, i < (sectF s).length → PTr P (F 132) [.str s, .int .i64 (i : Nat)] (.tup [.str (textF s i), .int .i64 0]) := fun i h => by
      have := t132 h132 h141 h124 s (by omega) i
      rw [(part_at h).2] at this
      exact this
    have htv : ∀ i (h : i < (sectF s).length), textF s i = (s.take (sectF s)[i].to).drop (sectF s)[i].fr := fun i h => by rw [textF, (part_at h).1]
    have h0 : ∃ e, leadF s = s.take e ∧ e ≤ s.length ∧ (e = s.length ∨ ∃ j y, 0 ≤ j ∧ (sectF s)[j]? = some y ∧ y.fr = e) := by
      unfold leadF
      cases hc : sectF s with
      | nil => exact ⟨s.length, by simp, Nat.le_refl _, .inl rfl⟩
      | cons x r =>
        have okx := hok x (by rw [hc]; simp)
        have o1 := okx.bd; have o2 := okx.le; have o3 := okx.to
        exact ⟨x.fr, rfl, by omega, .inr ⟨0, x, Nat.le_refl _, by simp, rfl⟩⟩
    obtain ⟨e0, he0, hel0, hen0⟩ := h0
    have hlead : (leadF s).length = e0 := by rw [he0, List.length_take]; omega
    rw [he0]
    have hle' : (List.take e0 s).length = e0 := by rw [List.length_take]; omega
    generalize sectF s = l at *
    refine loopK_intro (fun m s1 => ∃ i e, i ≤ l.length ∧ m = l.length - i ∧ e ≤ s.length ∧ (e = s.length ∨ ∃ j y, i ≤ j ∧ l[j]? = some y ∧ y.fr = e) ∧ s1.env 3 = .str s ∧ s1.env 4 = .lst 5 (secV l) ∧ s1.env 6 = .str (s.take e) ∧ s1.env 8 = .int .i64 e ∧ s1.env 9 = .int .i64 i) l.length ⟨0, e0, ?_⟩ fun m s1 hJ => ?_
    · simp only [push_cast, seval, -Nat.reducePow, decide_true, decide_false, hle']
      exact ⟨rfl, hel0, by simpa using hen0⟩
    · obtain ⟨i, e, hil, rfl, hel, hen, j3, j4, j6, j8, j9⟩ := hJ
      by_cases hlt : i < l.length
      · have hlt' : ((i : Nat) : Int) < ((secV l).length : Nat) := by omega
        have hx : (secV l).getD i .junk = (l[i]).v := by simp [secV, List.getD, hlt]
        have okx := hok l[i] (List.getElem_mem hlt)
        have hcl := htx i hlt
        rw [htv i hlt] at hcl
        have hnest : ∀ k (hk : k < i), (l[i]).fr < (l[k]).to → (l[i]).to ≤ (l[k]).to ∧ (l[k]).lev < (l[i]).lev := fun k hk => (List.pairwise_iff_getElem.1 hne) k i (by omega) hlt hk
        have hnxt := hnx i l[i] (by simp [hlt])
        have o1 := okx.bd; have o2 := okx.le; have o3 := okx.to
        have hgi : l[i]? = some l[i] := by simp [hlt]
        generalize hX : l[i] = x at *
        obtain ⟨lv, ti, fr, bd, to⟩ := x
        simp only [Sec.v] at hx o1 o2 o3 hcl hnest hnxt
        have q1 : ¬ ((bd : Nat) : Int) < ((fr : Nat) : Int) := by omega
        have q2 : ¬ ((to : Nat) : Int) < ((bd : Nat) : Int) := by omega
        have q3 : ¬ ((s.length : Nat) : Int) < ((to : Nat) : Int) := by omega
        simp only [push_cast, seval, -Nat.reducePow, decide_true, decide_false, j3, j4, j6, j8, j9, hlt']
        refine callK_intro hcl (by simp only [push_cast, seval, -Nat.reducePow, decide_true, decide_false]) (by simp only [push_cast, seval, -Nat.reducePow, decide_true, decide_false]) ?_
        simp only [push_cast, seval, -Nat.reducePow, decide_true, decide_false, j3, j4, j6, j8, j9, hx, q1, q2, q3]
        repeat refine And.intro (by omega) ?_
        refine cutK_intro (fun s2 => ∃ e, e ≤ s.length ∧ (e = s.length ∨ ∃ j y, i + 1 ≤ j ∧ l[j]? = some y ∧ y.fr = e) ∧ s2.env 3 = .str s ∧ s2.env 4 = .lst 5 (secV l) ∧ s2.env 6 = .str (s.take e) ∧ s2.env 8 = .int .i64 e ∧ s2.env 9 = .int .i64 i) ?_ ?_
        · by_cases hfe : fr = e
          · have hfe' : ((fr : Nat) : Int) = ((e : Nat) : Int) := by omega
            have htk : s.take e ++ (s.take to).drop fr = s.take to := by
              rw [hfe]
              have : s.take e = (s.take to).take e := by rw [List.take_take, Nat.min_eq_left (by omega)]
              rw [this, List.take_append_drop]
            have l1 : (List.take e s).length = e := by rw [List.length_take]; omega
            have l2 : (List.drop fr (List.take to s)).length = to - fr := by rw [List.length_drop, List.length_take]; omega
            simp only [push_cast, seval, -Nat.reducePow, decide_true, decide_false, j3, j4, j6, j8, j9, hx, hfe', htk]
            refine ⟨by omega, by omega, by omega, to, o3, ?_, rfl, rfl⟩
            rcases hnxt with h | ⟨j, y, h2, h3, h4⟩
            · exact .inl h
            · exact .inr ⟨j, y, by omega, h3, h4⟩
          · have hfe' : ¬ ((fr : Nat) : Int) = ((e : Nat) : Int) := by omega
            simp only [push_cast, seval, -Nat.reducePow, decide_true, decide_false, j3, j4, j6, j8, j9, hx, hfe']
            refine ⟨by omega, e, hel, ?_, rfl, rfl⟩
            rcases hen with h | ⟨j, y, h2, h3, h4⟩
            · exact .inl h
            · refine .inr ⟨j, y, ?_, h3, h4⟩
              rcases Nat.lt_or_ge i j with h5 | h5
              · omega
              · obtain rfl : i = j := by omega
                rw [hgi] at h3
                obtain rfl := Option.some.inj h3
                exact absurd h4 hfe
        · rintro s2 ⟨e2, k1, k2, k3, k4, k6, k8, k9⟩
          simp only [push_cast, seval, -Nat.reducePow, decide_true, decide_false, k3, k4, k6, k8, k9]
          refine loopK_intro (fun m s3 => ∃ k, k ≤ i ∧ m = i - k ∧ s3.env 3 = .str s ∧ s3.env 4 = .lst 5 (secV l) ∧ s3.env 6 = .str (s.take e2) ∧ s3.env 8 = .int .i64 e2 ∧ s3.env 9 = .int .i64 i ∧ s3.env 12 = .int .i64 k) i ⟨0, ?_⟩ fun m s3 hJ => ?_
          · simp only [push_cast, seval, -Nat.reducePow, decide_true, decide_false, k3, k4, k6, k8, k9]
            rfl
          · obtain ⟨k, hki, rfl, g3, g4, g6, g8, g9, g12⟩ := hJ
            by_cases hk : k < i
            · have hk' : ((k : Nat) : Int) < ((i : Nat) : Int) := by omega
              have hkl : k < l.length := by omega
              have hy : (secV l).getD k .junk = (l[k]).v := by simp [secV, List.getD, hkl]
              have hnk := hnest k hk
              generalize l[k] = y at *
              obtain ⟨lv2, ti2, fr2, bd2, to2⟩ := y
              simp only [Sec.v] at hy hnk
              by_cases hft : fr < to2
              · obtain ⟨n1, n2⟩ := hnk hft
                have hft' : ((fr : Nat) : Int) < ((to2 : Nat) : Int) := by omega
                have n1' : ¬ ((to2 : Nat) : Int) < ((to : Nat) : Int) := by omega
                have n2' : ¬ ((lv : Nat) : Int) ≤ ((lv2 : Nat) : Int) := by omega
                simp only [push_cast, seval, -Nat.reducePow, decide_true, decide_false, g3, g4, g6, g8, g9, g12, hk', hx, hy, hft', n1', n2']
                exact ⟨by omega, by omega, by omega, by omega, by omega, by omega, by omega, i - (k + 1), by omega, k + 1, by omega, rfl, by simp⟩
              · have hft' : ¬ ((fr : Nat) : Int) < ((to2 : Nat) : Int) := by omega
                simp only [push_cast, seval, -Nat.reducePow, decide_true, decide_false, g3, g4, g6, g8, g9, g12, hk', hx, hy, hft']
                exact ⟨by omega, by omega, by omega, i - (k + 1), by omega, k + 1, by omega, rfl, by simp⟩
            · have hk' : ¬ ((k : Nat) : Int) < ((i : Nat) : Int) := by omega
              simp only [push_cast, seval, -Nat.reducePow, decide_true, decide_false, g3, g4, g6, g8, g9, g12, hk']
              exact ⟨by omega, l.length - (i + 1), by omega, i + 1, e2, by omega, rfl, k1, k2, rfl, rfl, by simp⟩
      · have hlt' : ¬ ((i : Nat) : Int) < ((secV l).length : Nat) := by omega
        have he : e = s.length := by
          rcases hen with h | ⟨j, y, h2, h3, _⟩
          · exact h
          · have := (List.getElem?_eq_some_iff.1 h3).1
            omega
        subst he
        simp only [push_cast, seval, -Nat.reducePow, decide_true, decide_false, j3, j4, j6, j8, j9, hlt', List.take_length]
        refine callK_intro kn (by simp only [push_cast, seval, -Nat.reducePow, decide_true, decide_false]) (by simp only [push_cast, seval, -Nat.reducePow, decide_true, decide_false]) ?_
        simp only [push_cast, seval, -Nat.reducePow, decide_true, decide_false, view]
end Go.Ab
/- SectionHeadings. No condition. -/
namespace Go.Ab
set_option linter.unusedVariables false
set_option linter.unusedSimpArgs false

variable {P : Program} {F T : Nat → Nat}
open Go.Lib

theorem hName_at {k : Nat} (h : k < 4) : [V.str [120], V.str [97, 32, 98], V.str [49], V.str [120, 61, 121]].getD k .junk = .str (hName k) ∧ (hName k).length ≤ 3 := by
  have : k = 0 ∨ k = 1 ∨ k = 2 ∨ k = 3 := by omega
  rcases this with rfl | rfl | rfl | rfl <;> exact ⟨rfl, by decide⟩
theorem hBlank_at {k : Nat} (h : k < 4) : [V.str [], V.str [32], V.str [9], V.str [32, 32]].getD k .junk = .str (hBlank k) ∧ (hBlank k).length ≤ 2 := by
  have : k = 0 ∨ k = 1 ∨ k = 2 ∨ k = 3 := by omega
  rcases this with rfl | rfl | rfl | rfl <;> exact ⟨rfl, by decide⟩
theorem law123 (hf : Is123 P F T) (R : Rpt P F) (h124 : SectC P (F 124)) (h125 : Is125 P F T) (h138 : Is138 P F T) (kn : PTr P (F 126) [] (.bool true)) (a b n : Int) : PTr P (F 123) [.int .i64 a, .int .i64 b, .int .i64 n] (.bool true) := by
  obtain ⟨ka, ha, hva⟩ := and_small a 7 (by omega)
  obtain ⟨kb, hb, hvb⟩ := and_small b 7 (by omega)
  obtain ⟨kn1, hn1, hvn⟩ := and_small n 3 (by omega)
  obtain ⟨km, hm1, hvm⟩ := and_small (vshr .i64 n 2) 3 (by omega)
  have hva' : vbits .and .i64 a 7 = (ka : Int) := hva
  have hvb' : vbits .and .i64 b 7 = (kb : Int) := hvb
  have hvn' : vbits .and .i64 n 3 = (kn1 : Int) := hvn
  have hvm' : vbits .and .i64 (vshr .i64 n 2) 3 = (km : Int) := hvm
  obtain ⟨A, hA⟩ : ∃ A, A = 1 + ka := ⟨_, rfl⟩
  obtain ⟨B, hB⟩ : ∃ B, B = 1 + kb := ⟨_, rfl⟩
  have hA' : (1 : Int) + (ka : Nat) = (A : Nat) := by omega
  have hB' : (1 : Int) + (kb : Nat) = (B : Nat) := by omega
  obtain ⟨hN, hNl⟩ := hName_at (k := kn1) (by omega)
  obtain ⟨hM, hMl⟩ := hBlank_at (k := km) (by omega)
  obtain ⟨d, hsec⟩ := sect_head (a := A) (b := B) (n := kn1) (m := km) (by omega) (by omega) (by omega) (by omega) (by omega) (by omega)
  have hL : min (min ((A : Nat) : Int) ((B : Nat) : Int)) 6 = (hLev A B : Nat) := by unfold hLev; omega
  have hLA : ((A : Nat) : Int) - (hLev A B : Nat) = ((A - hLev A B : Nat) : Int) := by unfold hLev; omega
  have hLB : ((B : Nat) : Int) - (hLev A B : Nat) = ((B - hLev A B : Nat) : Int) := by unfold hLev; omega
  have rA := R 61 A (by omega)
  have rB := R 61 B (by omega)
  have rC := R 61 (A - hLev A B) (by omega)
  have rD := R 61 (B - hLev A B) (by omega)
  have hlT : (hText A B kn1 km).length ≤ 100 := by simp [hText]; omega
  have hlW : (hWant A B kn1 km).length ≤ 100 := by simp [hWant]; omega
  have c1 := h124 (hText A B kn1 km) (by omega)
  rw [hsec] at c1
  have c2 := t125 h125 h138 (hWant A B kn1 km) (by omega)
  unfold hText at c1 hlT
  unfold hWant at c1 c2 hlW
  generalize hName kn1 = nm at *
  generalize hBlank km = bl at *
  generalize trimS _ wsp = ti at c1 c2
  generalize A - hLev A B = X at *
  generalize B - hLev A B = Y at *
  generalize hLev A B = lv at *
  simp only [secV, Sec.v, List.map_cons, List.map_nil] at c1
  simp only [List.length_append, List.length_replicate, List.length_cons, List.length_nil] at hlT hlW
  refine ptrC [] hf (by simp) rfl ?_
  simp only [c123, push_cast, seval, -Nat.reducePow, decide_true, decide_false, hva', hvb', hvn', hvm', hA', hB', hN, hM]
  repeat refine And.intro (by omega) ?_
  refine callK_intro rA (by simp only [push_cast, seval, -Nat.reducePow, decide_true, decide_false]) (by simp only [push_cast, seval, -Nat.reducePow, decide_true, decide_false]) ?_
  simp only [push_cast, seval, -Nat.reducePow, decide_true, decide_false]
  repeat refine And.intro (by simp only [List.length_append, List.length_replicate]; omega) ?_
  refine callK_intro rB (by simp only [push_cast, seval, -Nat.reducePow, decide_true, decide_false]) (by simp only [push_cast, seval, -Nat.reducePow, decide_true, decide_false]) ?_
  simp only [push_cast, seval, -Nat.reducePow, decide_true, decide_false]
  repeat refine And.intro (by first | omega | (simp only [List.length_append, List.length_replicate, List.length_cons, List.length_nil]; omega)) ?_
  refine callK_intro c1 (by simp only [push_cast, seval, -Nat.reducePow, decide_true, decide_false]) (by simp only [push_cast, seval, -Nat.reducePow, decide_true, decide_false]) ?_
  simp only [push_cast, seval, -Nat.reducePow, decide_true, decide_false, hL, hLA, hLB]
  repeat refine And.intro (by omega) ?_
  refine callK_intro rC (by simp only [push_cast, seval, -Nat.reducePow, decide_true, decide_false]) (by simp only [push_cast, seval, -Nat.reducePow, decide_true, decide_false]) ?_
  simp only [push_cast, seval, -Nat.reducePow, decide_true, decide_false, hLB]
  repeat refine And.intro (by first | omega | (simp only [List.length_append, List.length_replicate, List.length_cons, List.length_nil]; omega)) ?_
  refine callK_intro rD (by simp only [push_cast, seval, -Nat.reducePow, decide_true, decide_false]) (by simp only [push_cast, seval, -Nat.reducePow, decide_true, decide_false]) ?_
  simp only [push_cast, seval, -Nat.reducePow, decide_true, decide_false]
  repeat refine And.intro (by first | omega | (simp only [List.length_append, List.length_replicate, List.length_cons, List.length_nil]; omega)) ?_
  refine callK_intro c2 (by simp only [push_cast, seval, -Nat.reducePow, decide_true, decide_false]) (by simp only [push_cast, seval, -Nat.reducePow, decide_true, decide_false]) ?_
  simp only [push_cast, seval, -Nat.reducePow, decide_true, decide_false]
  refine callK_intro kn (by simp only [push_cast, seval, -Nat.reducePow, decide_true, decide_false]) (by simp only [push_cast, seval, -Nat.reducePow, decide_true, decide_false]) ?_
  simp only [push_cast, seval, -Nat.reducePow, decide_true, decide_false, view]
end Go.Ab
/- Lists of sections that come in. No condition. -/
namespace Go.Ab
set_option linter.unusedVariables false
set_option linter.unusedSimpArgs false

structure SecTys (P : Program) (tl tn ti ts : TypeId) : Prop where
  hl : P.underlying tl = some (.slice tn)
  cn : P.cellsOf tn = 5
  an : isAg P tn = true
  sn : sparts P tn = some [(0, ti), (1, ts), (2, ti), (3, ti), (4, ti)]
  hi : P.underlying ti = some (.int .i64)
  hs : P.underlying ts = some .string
  ci : P.cellsOf ti = 1
  cs : P.cellsOf ts = 1
theorem arg_secs {P : Program} {tl tn ti ts : TypeId} (H : SecTys P tl tn ti ts) {x : V} (h : ArgT P tl x) : ∃ l, x = .lst 5 (quV l) := by
  obtain ⟨n, hn⟩ := arg_one (by simp [isAg, H.hl]) h
  cases n with
  | zero => exact (vt_zero hn).elim
  | succ n =>
    obtain ⟨es, h1, hes⟩ := vt_slice H.hl hn
    rw [H.cn] at h1 hes
    simp only [List.cons.injEq, and_true] at h1
    have : ∀ es : List V, (∀ x, x ∈ es → ∃ ys, x = pack (isAg P tn) ys ∧ ys.length = 5 ∧ VT P n tn ys) → ∃ l, es = quV l := by
      intro es
      induction es with
      | nil => intro _; exact ⟨[], rfl⟩
      | cons e r ihr =>
        intro hh
        obtain ⟨l, hl⟩ := ihr fun x hx => hh x (by simp [hx])
        obtain ⟨ys, g1, g2, g3⟩ := hh e (by simp)
        obtain ⟨a, b, c, d, f, rfl⟩ := list5 g2
        cases n with
        | zero => exact (vt_zero g3).elim
        | succ n =>
          obtain ⟨q1, q2⟩ := vt_struct H.sn g3
          have k1 := q2 (0, ti) (by simp)
          have k2 := q2 (1, ts) (by simp)
          have k3 := q2 (2, ti) (by simp)
          have k4 := q2 (3, ti) (by simp)
          have k5 := q2 (4, ti) (by simp)
          simp only [H.ci, H.cs, List.drop_succ_cons, List.drop_zero, List.take_succ_cons, List.take_zero] at k1 k2 k3 k4 k5
          cases n with
          | zero => exact (vt_zero k1).elim
          | succ n =>
            obtain ⟨m1, e1, _⟩ := vt_int H.hi k1
            obtain ⟨m2, e2⟩ := vt_str H.hs k2
            obtain ⟨m3, e3, _⟩ := vt_int H.hi k3
            obtain ⟨m4, e4, _⟩ := vt_int H.hi k4
            obtain ⟨m5, e5, _⟩ := vt_int H.hi k5
            simp only [List.cons.injEq, and_true] at e1 e2 e3 e4 e5
            exact ⟨⟨m1, m2, m3, m4, m5⟩ :: l, by rw [g1, H.an, hl, e1, e2, e3, e4, e5]; rfl⟩
    obtain ⟨l, rfl⟩ := this es hes
    exact ⟨l, h1⟩
end Go.Ab
