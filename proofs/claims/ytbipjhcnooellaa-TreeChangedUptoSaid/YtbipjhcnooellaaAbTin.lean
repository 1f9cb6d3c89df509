/- Source trees among the arguments. No condition. -/
import Derived.Test.YtbipjhcnooellaaAbIn
import Derived.Test.YtbipjhcnooellaaAbTree
namespace Go.Ab
set_option linter.unusedVariables false
set_option linter.unusedSimpArgs false

def sparts (P : Program) (t : TypeId) : Option (List (Nat × TypeId)) := match P.underlying t with
  | some (.struct fs) => some (partsT P (.struct fs))
  | _ => none
theorem vt_struct {P : Program} {n : Nat} {t : TypeId} {xs : List V} {ps : List (Nat × TypeId)} (h : sparts P t = some ps) (hv : VT P (n + 1) t xs) : xs.length = P.cellsOf t ∧ ∀ f, f ∈ ps → VT P n f.2 ((xs.drop f.1).take (P.cellsOf f.2)) := by
  unfold sparts at h
  split at h
  · rename_i fs hu
    simp only [Option.some.injEq] at h
    subst h
    simpa only [VT, hu] using hv
  · cases h
theorem vt_slice {P : Program} {n : Nat} {t e : TypeId} {xs : List V} (h : P.underlying t = some (.slice e)) (hv : VT P (n + 1) t xs) : ∃ es, xs = [.lst (P.cellsOf e) es] ∧ ∀ x, x ∈ es → (∃ ys, x = pack (isAg P e) ys ∧ ys.length = P.cellsOf e ∧ VT P n e ys) := by
  simpa only [VT, h] using hv
theorem vt_bool {P : Program} {n : Nat} {t : TypeId} {xs : List V} (h : P.underlying t = some .bool) (hv : VT P (n + 1) t xs) : ∃ b, xs = [.bool b] := by simpa only [VT, h] using hv
theorem vt_int {P : Program} {n : Nat} {t : TypeId} {xs : List V} {k : IntKind} (h : P.underlying t = some (.int k)) (hv : VT P (n + 1) t xs) : ∃ m, xs = [.int k m] ∧ (Lit.int k m).wf = true := by simpa only [VT, h] using hv
theorem vt_str {P : Program} {n : Nat} {t : TypeId} {xs : List V} (h : P.underlying t = some .string) (hv : VT P (n + 1) t xs) : ∃ s, xs = [.str s] := by simpa only [VT, h] using hv
theorem vt_zero {P : Program} {t : TypeId} {xs : List V} (hv : VT P 0 t xs) : False := hv
theorem wf_i64 {m : Int} (h : (Lit.int .i64 m).wf = true) : -9223372036854775808 ≤ m ∧ m ≤ 9223372036854775807 := by
  simpa [Lit.wf, IntKind.min, IntKind.max, IntKind.signed, IntKind.bits] using h
/-- arguments, one by one -/
theorem arg_one {P : Program} {t : TypeId} {x : V} (ha : isAg P t = false) (h : ArgT P t x) : ∃ n, VT P n t [x] := by
  obtain ⟨n, ys, h1, h2, h3⟩ := h
  rw [ha] at h2 h3
  match ys, (show ys.length = 1 by simpa using h3) with
  | [y], _ => subst h2; exact ⟨n, h1⟩
theorem arg_int {P : Program} {t : TypeId} {x : V} (hu : P.underlying t = some (.int .i64)) (h : ArgT P t x) : ∃ m, x = .int .i64 m ∧ -9223372036854775808 ≤ m ∧ m ≤ 9223372036854775807 := by
  obtain ⟨n, hn⟩ := arg_one (by simp [isAg, hu]) h
  cases n with
  | zero => exact (vt_zero hn).elim
  | succ n => obtain ⟨m, hm, hw⟩ := vt_int hu hn; simp at hm; exact ⟨m, hm, wf_i64 hw⟩
theorem arg_bool {P : Program} {t : TypeId} {x : V} (hu : P.underlying t = some .bool) (h : ArgT P t x) : ∃ b, x = .bool b := by
  obtain ⟨n, hn⟩ := arg_one (by simp [isAg, hu]) h
  cases n with
  | zero => exact (vt_zero hn).elim
  | succ n => obtain ⟨m, hm⟩ := vt_bool hu hn; simp at hm; exact ⟨m, hm⟩
theorem arg_str {P : Program} {t : TypeId} {x : V} (hu : P.underlying t = some .string) (h : ArgT P t x) : ∃ s, x = .str s := by
  obtain ⟨n, hn⟩ := arg_one (by simp [isAg, hu]) h
  cases n with
  | zero => exact (vt_zero hn).elim
  | succ n => obtain ⟨m, hm⟩ := vt_str hu hn; simp at hm; exact ⟨m, hm⟩

/-- the types of a tree -/
structure NodeTys (P : Program) (tl tn ta tal ti tb ts : TypeId) : Prop where
  hl : P.underlying tl = some (.slice tn)
  cn : P.cellsOf tn = 5
  an : isAg P tn = true
  sn : sparts P tn = some [(0, ti), (1, ti), (2, ts), (3, tl), (4, tal)]
  hal : P.underlying tal = some (.slice ta)
  ca : P.cellsOf ta = 3
  aa : isAg P ta = true
  sa : sparts P ta = some [(0, tb), (1, tl), (2, tl)]
  hi : P.underlying ti = some (.int .i64)
  hb : P.underlying tb = some .bool
  hs : P.underlying ts = some .string
  ci : P.cellsOf ti = 1
  cb : P.cellsOf tb = 1
  cs : P.cellsOf ts = 1
  cl : P.cellsOf tl = 1
  cal : P.cellsOf tal = 1

theorem list5 {xs : List V} (h : xs.length = 5) : ∃ a b c d e, xs = [a, b, c, d, e] := by
  match xs, h with
  | [a, b, c, d, e], _ => exact ⟨a, b, c, d, e, rfl⟩
theorem list3 {xs : List V} (h : xs.length = 3) : ∃ a b c, xs = [a, b, c] := by
  match xs, h with
  | [a, b, c], _ => exact ⟨a, b, c, rfl⟩

theorem vt_tree {P : Program} {tl tn ta tal ti tb ts : TypeId} (H : NodeTys P tl tn ta tal ti tb ts) : ∀ n : Nat, (∀ xs, VT P n tl xs → ∃ l, xs = [.lst 5 (encs l)]) ∧ (∀ xs, VT P n tal xs → ∃ l, xs = [.lst 3 (encA l)]) ∧
    (∀ ys, VT P n tn ys → ∃ x : Node, ys = x.cs) ∧ (∀ ys, VT P n ta ys → ∃ x : Arg, ys = x.cs) := by
  intro n
  induction n with
  | zero => exact ⟨fun _ h => h.elim, fun _ h => h.elim, fun _ h => h.elim, fun _ h => h.elim⟩
  | succ n ih =>
    obtain ⟨i1, i2, i3, i4⟩ := ih
    refine ⟨fun xs h => ?_, fun xs h => ?_, fun ys h => ?_, fun ys h => ?_⟩
    · obtain ⟨es, rfl, hes⟩ := vt_slice H.hl h
      rw [H.cn] at hes ⊢
      have : ∀ es : List V, (∀ x, x ∈ es → ∃ ys, x = pack (isAg P tn) ys ∧ ys.length = 5 ∧ VT P n tn ys) → ∃ l, es = encs l := by
        intro es
        induction es with
        | nil => intro _; exact ⟨[], rfl⟩
        | cons e r ihr =>
          intro hh
          obtain ⟨l, hl⟩ := ihr fun x hx => hh x (by simp [hx])
          obtain ⟨ys, h1, h2, h3⟩ := hh e (by simp)
          obtain ⟨x, rfl⟩ := i3 ys h3
          exact ⟨x :: l, by rw [h1, H.an, hl]; rfl⟩
      obtain ⟨l, rfl⟩ := this es hes
      exact ⟨l, rfl⟩
    · obtain ⟨es, rfl, hes⟩ := vt_slice H.hal h
      rw [H.ca] at hes ⊢
      have : ∀ es : List V, (∀ x, x ∈ es → ∃ ys, x = pack (isAg P ta) ys ∧ ys.length = 3 ∧ VT P n ta ys) → ∃ l, es = encA l := by
        intro es
        induction es with
        | nil => intro _; exact ⟨[], rfl⟩
        | cons e r ihr =>
          intro hh
          obtain ⟨l, hl⟩ := ihr fun x hx => hh x (by simp [hx])
          obtain ⟨ys, h1, h2, h3⟩ := hh e (by simp)
          obtain ⟨x, rfl⟩ := i4 ys h3
          exact ⟨x :: l, by rw [h1, H.aa, hl]; rfl⟩
      obtain ⟨l, rfl⟩ := this es hes
      exact ⟨l, rfl⟩
    · obtain ⟨h1, h2⟩ := vt_struct H.sn h
      rw [H.cn] at h1
      obtain ⟨a, b, c, d, e, rfl⟩ := list5 h1
      have k1 := h2 (0, ti) (by simp)
      have k2 := h2 (1, ti) (by simp)
      have k3 := h2 (2, ts) (by simp)
      have k4 := h2 (3, tl) (by simp)
      have k5 := h2 (4, tal) (by simp)
      simp only [H.ci, H.cs, H.cl, H.cal, List.drop_succ_cons, List.drop_zero, List.take_succ_cons, List.take_zero] at k1 k2 k3 k4 k5
      cases n with
      | zero => exact k1.elim
      | succ n =>
        obtain ⟨m1, e1, _⟩ := vt_int H.hi k1
        obtain ⟨m2, e2, _⟩ := vt_int H.hi k2
        obtain ⟨m3, e3⟩ := vt_str H.hs k3
        obtain ⟨m4, e4⟩ := i1 _ k4
        obtain ⟨m5, e5⟩ := i2 _ k5
        simp only [List.cons.injEq, and_true] at e1 e2 e3 e4 e5
        exact ⟨.mk m1 m2 m3 m4 m5, by rw [e1, e2, e3, e4, e5]; rfl⟩
    · obtain ⟨h1, h2⟩ := vt_struct H.sa h
      rw [H.ca] at h1
      obtain ⟨a, b, c, rfl⟩ := list3 h1
      have k1 := h2 (0, tb) (by simp)
      have k2 := h2 (1, tl) (by simp)
      have k3 := h2 (2, tl) (by simp)
      simp only [H.cb, H.cl, List.drop_succ_cons, List.drop_zero, List.take_succ_cons, List.take_zero] at k1 k2 k3
      cases n with
      | zero => exact k1.elim
      | succ n =>
        obtain ⟨m1, e1⟩ := vt_bool H.hb k1
        obtain ⟨m2, e2⟩ := i1 _ k2
        obtain ⟨m3, e3⟩ := i1 _ k3
        simp only [List.cons.injEq, and_true] at e1 e2 e3
        exact ⟨.mk m1 m2 m3, by rw [e1, e2, e3]; rfl⟩
mutual
theorem bk_node : ∀ n : Node, n.bulk ≤ V.bks n.cs
  | .mk k t s ks as => by have := bk_nodes ks; have := bk_args as; simp [Node.bulk, Node.cs, V.bks, V.bk]; omega
theorem bk_nodes : ∀ l : List Node, bulks l ≤ V.bks (encs l)
  | [] => by simp [bulks]
  | n :: r => by have := bk_node n; have := bk_nodes r; simp [bulks, encs, V.bks, V.bk]; omega
theorem bk_arg : ∀ n : Arg, n.bulk ≤ V.bks n.cs
  | .mk b n v => by have := bk_nodes n; have := bk_nodes v; simp [Arg.bulk, Arg.cs, V.bks, V.bk]; omega
theorem bk_args : ∀ l : List Arg, bulkA l ≤ V.bks (encA l)
  | [] => by simp [bulkA]
  | n :: r => by have := bk_arg n; have := bk_args r; simp [bulkA, encA, V.bks, V.bk]; omega
end
theorem arg_nodes {P : Program} {tl tn ta tal ti tb ts : TypeId} (H : NodeTys P tl tn ta tal ti tb ts) {x : V} (h : ArgT P tl x) : ∃ l, x = .lst 5 (encs l) ∧ bulks l ≤ x.bk := by
  obtain ⟨n, hn⟩ := arg_one (by simp [isAg, H.hl]) h
  obtain ⟨l, hl⟩ := (vt_tree H n).1 _ hn
  simp only [List.cons.injEq, and_true] at hl
  subst hl
  exact ⟨l, rfl, by have := bk_nodes l; simp only [V.bk]; omega⟩
end Go.Ab
