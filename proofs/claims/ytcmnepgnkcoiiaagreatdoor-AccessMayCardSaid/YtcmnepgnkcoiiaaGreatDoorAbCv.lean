/- Policies, titles and lists of texts that come in. No condition. -/
import Derived.Test.YtcmnepgnkcoiiaaGreatDoorAbCu
import Derived.Test.YtcmnepgnkcoiiaaGreatDoorAbCe
import Derived.Test.YtcmnepgnkcoiiaaGreatDoorAbK4
namespace Go.Ab
set_option linter.unusedVariables false
set_option linter.unusedSimpArgs false
theorem list_dec {α : Type} (g : α → V) : ∀ es : List V, (∀ x, x ∈ es → ∃ q, x = g q) → ∃ l : List α, es = l.map g
 | [], _ => ⟨[], rfl⟩
 | e :: r, h => by
   obtain ⟨q, hq⟩ := h e (by simp)
   obtain ⟨l, hl⟩ := list_dec g r fun x hx => h x (by simp [hx])
   exact ⟨q :: l, by rw [hq, hl]; rfl⟩
theorem list2 {xs : List V} (h : xs.length = 2) : ∃ a b, xs = [a, b] := by
 match xs, h with
 | [a, b], _ => exact ⟨a, b, rfl⟩
theorem list6 {xs : List V} (h : xs.length = 6) : ∃ a b c d e f, xs = [a, b, c, d, e, f] := by
 match xs, h with
 | [a, b, c, d, e, f], _ => exact ⟨a, b, c, d, e, f, rfl⟩
structure PolTys (P : Program) (tp tgl tg tsl trl tr tsc tt tdl td ti tb ts : TypeId) : Prop where
 hi : P.underlying ti = some (.int .i64)
 hb : P.underlying tb = some .bool
 hs : P.underlying ts = some .string
 ci : P.cellsOf ti = 1
 cb : P.cellsOf tb = 1
 cs : P.cellsOf ts = 1
 ass : isAg P ts = false
 hsl : P.underlying tsl = some (.slice ts)
 csl : P.cellsOf tsl = 1
 asl : isAg P tsl = false
 st : sparts P tt = some [(0, ti), (1, ts)]
 ct : P.cellsOf tt = 2
 att : isAg P tt = true
 ssc : sparts P tsc = some [(0, ti), (1, tt)]
 csc : P.cellsOf tsc = 3
 sr : sparts P tr = some [(0, tb), (1, ti), (2, ts), (3, tsc)]
 cr : P.cellsOf tr = 6
 ar : isAg P tr = true
 hrl : P.underlying trl = some (.slice tr)
 crl : P.cellsOf trl = 1
 sg : sparts P tg = some [(0, ts), (1, tsl)]
 cg : P.cellsOf tg = 2
 ag : isAg P tg = true
 hgl : P.underlying tgl = some (.slice tg)
 cgl : P.cellsOf tgl = 1
 sd : sparts P td = some [(0, tb), (1, ts), (2, tt), (4, ts)]
 cd : P.cellsOf td = 5
 ad : isAg P td = true
 hdl : P.underlying tdl = some (.slice td)
 cdl : P.cellsOf tdl = 1
 sp : sparts P tp = some [(0, tgl), (1, trl), (2, tdl)]
 cp : P.cellsOf tp = 3
 ap : isAg P tp = true
variable {P : Program} {tp tgl tg tsl trl tr tsc tt tdl td ti tb ts : TypeId}
theorem vt_strs (H : PolTys P tp tgl tg tsl trl tr tsc tt tdl td ti tb ts) {n : Nat} {xs : List V} (h : VT P n tsl xs) : ∃ l : List (List UInt8), xs = [.lst 1 (l.map .str)] := by
 cases n with
 | zero => exact (vt_zero h).elim
 | succ n =>
   obtain ⟨es, h1, hes⟩ := vt_slice H.hsl h
   rw [H.cs] at h1 hes
   obtain ⟨l, rfl⟩ := list_dec V.str es fun x hx => by
    obtain ⟨ys, g1, g2, g3⟩ := hes x hx
    cases n with
    | zero => exact (vt_zero g3).elim
    | succ n =>
      obtain ⟨s, rfl⟩ := vt_str H.hs g3
      exact ⟨s, by rw [g1, H.ass]; rfl⟩
   exact ⟨l, h1⟩
theorem arg_strs (H : PolTys P tp tgl tg tsl trl tr tsc tt tdl td ti tb ts) {x : V} (h : ArgT P tsl x) : ∃ l : List (List UInt8), x = .lst 1 (l.map .str) := by
 obtain ⟨n, hn⟩ := arg_one H.asl h
 obtain ⟨l, hl⟩ := vt_strs H hn
 exact ⟨l, by simpa using hl⟩
theorem vt_title (H : PolTys P tp tgl tg tsl trl tr tsc tt tdl td ti tb ts) {n : Nat} {xs : List V} (h : VT P n tt xs) : ∃ (sp : Int) (s : List UInt8), xs = [.int .i64 sp, .str s] := by
 cases n with
 | zero => exact (vt_zero h).elim
 | succ n =>
   obtain ⟨q1, q2⟩ := vt_struct H.st h
   rw [H.ct] at q1
   obtain ⟨a, b, rfl⟩ := list2 q1
   have k1 := q2 (0, ti) (by simp)
   have k2 := q2 (1, ts) (by simp)
   simp only [H.ci, H.cs, List.drop_succ_cons, List.drop_zero, List.take_succ_cons, List.take_zero] at k1 k2
   cases n with
   | zero => exact (vt_zero k1).elim
   | succ n =>
     obtain ⟨m1, e1, _⟩ := vt_int H.hi k1
     obtain ⟨m2, e2⟩ := vt_str H.hs k2
     simp only [List.cons.injEq, and_true] at e1 e2
     exact ⟨m1, m2, by rw [e1, e2]⟩
theorem arg_title (H : PolTys P tp tgl tg tsl trl tr tsc tt tdl td ti tb ts) {x : V} (h : ArgT P tt x) : ∃ (sp : Int) (s : List UInt8), x = ttV sp s := by
 obtain ⟨n, ys, h1, h2, h3⟩ := h
 obtain ⟨sp, s, rfl⟩ := vt_title H h1
 exact ⟨sp, s, by rw [h2, H.att]; rfl⟩
theorem vt_rules (H : PolTys P tp tgl tg tsl trl tr tsc tt tdl td ti tb ts) {n : Nat} {xs : List V} (h : VT P n trl xs) : ∃ l : List Rul, xs = [.lst 6 (ruV l)] := by
 cases n with
 | zero => exact (vt_zero h).elim
 | succ n =>
   obtain ⟨es, h1, hes⟩ := vt_slice H.hrl h
   rw [H.cr] at h1 hes
   obtain ⟨l, rfl⟩ := list_dec Rul.v es fun x hx => by
    obtain ⟨ys, g1, g2, g3⟩ := hes x hx
    obtain ⟨a, b, c, d, e, f, rfl⟩ := list6 g2
    cases n with
    | zero => exact (vt_zero g3).elim
    | succ n =>
      obtain ⟨q1, q2⟩ := vt_struct H.sr g3
      have k1 := q2 (0, tb) (by simp)
      have k2 := q2 (1, ti) (by simp)
      have k3 := q2 (2, ts) (by simp)
      have k4 := q2 (3, tsc) (by simp)
      simp only [H.ci, H.cs, H.cb, H.csc, List.drop_succ_cons, List.drop_zero, List.take_succ_cons, List.take_zero] at k1 k2 k3 k4
      cases n with
      | zero => exact (vt_zero k1).elim
      | succ n =>
        obtain ⟨m1, e1⟩ := vt_bool H.hb k1
        obtain ⟨m2, e2, _⟩ := vt_int H.hi k2
        obtain ⟨m3, e3⟩ := vt_str H.hs k3
        obtain ⟨_, q3⟩ := vt_struct H.ssc k4
        have k5 := q3 (0, ti) (by simp)
        have k6 := q3 (1, tt) (by simp)
        simp only [H.ci, H.ct, List.drop_succ_cons, List.drop_zero, List.take_succ_cons, List.take_zero] at k5 k6
        obtain ⟨sp, s, e6⟩ := vt_title H k6
        cases n with
        | zero => exact (vt_zero k5).elim
        | succ n =>
          obtain ⟨m5, e5, _⟩ := vt_int H.hi k5
          simp only [List.cons.injEq, and_true] at e1 e2 e3 e5 e6
          obtain ⟨e6, e7⟩ := e6
          exact ⟨⟨m1, m2, m3, m5, sp, s⟩, by rw [g1, H.ar, e1, e2, e3, e5, e6, e7]; rfl⟩
   exact ⟨l, h1⟩
theorem vt_groups (H : PolTys P tp tgl tg tsl trl tr tsc tt tdl td ti tb ts) {n : Nat} {xs : List V} (h : VT P n tgl xs) : ∃ l : List Gro, xs = [.lst 2 (grV l)] := by
 cases n with
 | zero => exact (vt_zero h).elim
 | succ n =>
   obtain ⟨es, h1, hes⟩ := vt_slice H.hgl h
   rw [H.cg] at h1 hes
   obtain ⟨l, rfl⟩ := list_dec Gro.v es fun x hx => by
    obtain ⟨ys, g1, g2, g3⟩ := hes x hx
    obtain ⟨a, b, rfl⟩ := list2 g2
    cases n with
    | zero => exact (vt_zero g3).elim
    | succ n =>
      obtain ⟨q1, q2⟩ := vt_struct H.sg g3
      have k1 := q2 (0, ts) (by simp)
      have k2 := q2 (1, tsl) (by simp)
      simp only [H.cs, H.csl, List.drop_succ_cons, List.drop_zero, List.take_succ_cons, List.take_zero] at k1 k2
      obtain ⟨l, e2⟩ := vt_strs H k2
      cases n with
      | zero => exact (vt_zero k1).elim
      | succ n =>
        obtain ⟨m1, e1⟩ := vt_str H.hs k1
        simp only [List.cons.injEq, and_true] at e1 e2
        exact ⟨⟨m1, l⟩, by rw [g1, H.ag, e1, e2]; rfl⟩
   exact ⟨l, h1⟩
theorem vt_guards (H : PolTys P tp tgl tg tsl trl tr tsc tt tdl td ti tb ts) {n : Nat} {xs : List V} (h : VT P n tdl xs) : ∃ l : List Grd, xs = [.lst 5 (gdV l)] := by
 cases n with
 | zero => exact (vt_zero h).elim
 | succ n =>
   obtain ⟨es, h1, hes⟩ := vt_slice H.hdl h
   rw [H.cd] at h1 hes
   obtain ⟨l, rfl⟩ := list_dec Grd.v es fun x hx => by
    obtain ⟨ys, g1, g2, g3⟩ := hes x hx
    obtain ⟨a, b, c, d, e, rfl⟩ := list5 g2
    cases n with
    | zero => exact (vt_zero g3).elim
    | succ n =>
      obtain ⟨q1, q2⟩ := vt_struct H.sd g3
      have k1 := q2 (0, tb) (by simp)
      have k2 := q2 (1, ts) (by simp)
      have k3 := q2 (2, tt) (by simp)
      have k4 := q2 (4, ts) (by simp)
      simp only [H.cs, H.cb, H.ct, List.drop_succ_cons, List.drop_zero, List.take_succ_cons, List.take_zero] at k1 k2 k3 k4
      obtain ⟨sp, s, e3⟩ := vt_title H k3
      cases n with
      | zero => exact (vt_zero k1).elim
      | succ n =>
        obtain ⟨m1, e1⟩ := vt_bool H.hb k1
        obtain ⟨m2, e2⟩ := vt_str H.hs k2
        obtain ⟨m4, e4⟩ := vt_str H.hs k4
        simp only [List.cons.injEq, and_true] at e1 e2 e3 e4
        obtain ⟨e3, e5⟩ := e3
        exact ⟨⟨m1, m2, sp, s, m4⟩, by rw [g1, H.ad, e1, e2, e3, e4, e5]; rfl⟩
   exact ⟨l, h1⟩
theorem arg_policy (H : PolTys P tp tgl tg tsl trl tr tsc tt tdl td ti tb ts) {x : V} (h : ArgT P tp x) : ∃ (gs : List Gro) (rs : List Rul) (ds : List Grd), x = polV (grV gs) rs (gdV ds) := by
 obtain ⟨n, ys, h1, h2, h3⟩ := h
 cases n with
 | zero => exact (vt_zero h1).elim
 | succ n =>
   obtain ⟨q1, q2⟩ := vt_struct H.sp h1
   rw [H.cp] at q1
   obtain ⟨a, b, c, rfl⟩ := list3 q1
   have k1 := q2 (0, tgl) (by simp)
   have k2 := q2 (1, trl) (by simp)
   have k3 := q2 (2, tdl) (by simp)
   simp only [H.cgl, H.crl, H.cdl, List.drop_succ_cons, List.drop_zero, List.take_succ_cons, List.take_zero] at k1 k2 k3
   obtain ⟨gs, e1⟩ := vt_groups H k1
   obtain ⟨rs, e2⟩ := vt_rules H k2
   obtain ⟨ds, e3⟩ := vt_guards H k3
   simp only [List.cons.injEq, and_true] at e1 e2 e3
   exact ⟨gs, rs, ds, by rw [h2, H.ap, e1, e2, e3]; rfl⟩
theorem gdV_imm (l : List Grd) : V.imms (gdV l) = true := imms_map _ _ fun q => rfl
end Go.Ab
