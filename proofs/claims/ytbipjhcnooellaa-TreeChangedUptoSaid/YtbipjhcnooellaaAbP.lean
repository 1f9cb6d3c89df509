/- What an operation of the lowered code looks at, and that independent ones may change places. No condition. -/
import Derived.Test.YtbipjhcnooellaaAbO
namespace Go.Ab
open Go.RowKit
set_option linter.unusedVariables false
set_option linter.unusedSimpArgs false

mutual
def V.fit (F : Nat → Prop) : V → Prop
  | .junk => True
  | .bool _ => True
  | .int _ _ => True
  | .str _ => True
  | .nilp => True
  | .nils => True
  | .ptr id _ => F id
  | .eptr id _ _ => F id
  | .cptr cs => V.fits F cs
  | .lst _ es => V.fits F es
  | .own id _ _ _ => F id
  | .agg cs => V.fits F cs
  | .tup cs => V.fits F cs
  | .fn _ cs => V.fits F cs
  | .map id => F id
  | .nilm => True
  | .raw _ => True
def V.fits (F : Nat → Prop) : List V → Prop
  | [] => True
  | x :: r => x.fit F ∧ V.fits F r
end

theorem fits_iff (F : Nat → Prop) (l : List V) : V.fits F l ↔ ∀ x, x ∈ l → x.fit F := by
  induction l with
  | nil => simp [V.fits]
  | cons y r ih => simp [V.fits, ih]

mutual
theorem fit_mono {F F' : Nat → Prop} (hF : ∀ i, F i → F' i) : ∀ {x : V}, x.fit F → x.fit F'
  | .junk, _ => by simp [V.fit]
  | .bool _, _ => by simp [V.fit]
  | .int _ _, _ => by simp [V.fit]
  | .str _, _ => by simp [V.fit]
  | .nilp, _ => by simp [V.fit]
  | .nils, _ => by simp [V.fit]
  | .ptr _ _, h => by simp only [V.fit] at h ⊢; exact hF _ h
  | .eptr _ _ _, h => by simp only [V.fit] at h ⊢; exact hF _ h
  | .cptr cs, h => by simp only [V.fit] at h ⊢; exact fits_mono hF h
  | .lst _ cs, h => by simp only [V.fit] at h ⊢; exact fits_mono hF h
  | .own _ _ _ _, h => by simp only [V.fit] at h ⊢; exact hF _ h
  | .agg cs, h => by simp only [V.fit] at h ⊢; exact fits_mono hF h
  | .tup cs, h => by simp only [V.fit] at h ⊢; exact fits_mono hF h
  | .fn _ cs, h => by simp only [V.fit] at h ⊢; exact fits_mono hF h
  | .map _, h => by simp only [V.fit] at h ⊢; exact hF _ h
  | .nilm, _ => by simp [V.fit]
  | .raw _, _ => by simp [V.fit]
theorem fits_mono {F F' : Nat → Prop} (hF : ∀ i, F i → F' i) : ∀ {l : List V}, V.fits F l → V.fits F' l
  | [], _ => by simp [V.fits]
  | x :: r, h => by simp only [V.fits] at h ⊢; exact ⟨fit_mono hF h.1, fits_mono hF h.2⟩
end

mutual
theorem imm_fit (F : Nat → Prop) : ∀ {x : V}, x.imm = true → x.fit F
  | .junk, _ => by simp [V.fit]
  | .bool _, _ => by simp [V.fit]
  | .int _ _, _ => by simp [V.fit]
  | .str _, _ => by simp [V.fit]
  | .nilp, _ => by simp [V.fit]
  | .nils, _ => by simp [V.fit]
  | .ptr _ _, h => by simp [V.imm] at h
  | .eptr _ _ _, h => by simp [V.imm] at h
  | .cptr cs, h => by simp only [V.imm, V.fit] at h ⊢; exact imms_fits F h
  | .lst _ cs, h => by simp only [V.imm, V.fit] at h ⊢; exact imms_fits F h
  | .own _ _ _ _, h => by simp [V.imm] at h
  | .agg cs, h => by simp only [V.imm, V.fit] at h ⊢; exact imms_fits F h
  | .tup cs, h => by simp only [V.imm, V.fit] at h ⊢; exact imms_fits F h
  | .fn _ cs, h => by simp only [V.imm, V.fit] at h ⊢; exact imms_fits F h
  | .map _, h => by simp [V.imm] at h
  | .nilm, _ => by simp [V.fit]
  | .raw _, _ => by simp [V.fit]
theorem imms_fits (F : Nat → Prop) : ∀ {l : List V}, V.imms l = true → V.fits F l
  | [], _ => by simp [V.fits]
  | x :: r, h => by simp only [V.imms, Bool.and_eq_true] at h; simp only [V.fits]; exact ⟨imm_fit F h.1, imms_fits F h.2⟩
end

theorem flat1_imm {x : V} (h : x.flat1 = true) : x.imm = true := by cases x <;> simp [V.flat1] at h <;> rfl
theorem flat_imm {x : V} (h : x.flat = true) : x.imm = true := by
  cases x <;> simp only [V.flat] at h <;> first
    | exact flat1_imm h
    | (simp only [V.imm]; exact imms_of fun y hy => flat1_imm (List.all_eq_true.1 h y hy))

def Blk.fit (F : Nat → Prop) : Blk → Prop
  | .box _ cs => V.fits F cs
  | .vec _ _ es => V.fits F es
  | _ => True

structure SFit (F : Nat → Prop) (s : St) : Prop where
  env : ∀ t, (s.env t).fit F
  blk : ∀ id b, s.L id = some b → F id ∧ b.fit F

def updL (L : Heap) : List (Nat × Option Blk) → Heap
  | [] => L
  | (id, b) :: r => updL (upd L id b) r
def setEO (e : Nat → V) : Option Nat → V → Nat → V
  | some d, v => upd e d v
  | none, _ => e
/-- a change of a state -/
def St.chg (s : St) (δ : List (Nat × Option Blk)) (d : Option Nat) (v : V) : St := ⟨setEO s.env d v, updL s.L δ, s.nx⟩

theorem chg_nil (s : St) (d : Option Nat) (v : V) : s.chg [] d v = s.setO d v := by cases d <;> rfl

theorem fit_getD {F : Nat → Prop} {l : List V} (h : V.fits F l) (i : Nat) : (l.getD i .junk).fit F := by
  rcases Nat.lt_or_ge i l.length with hi | hi
  · have : l.getD i .junk ∈ l := by simp [List.getD, hi]
    exact (fits_iff F l).1 h _ this
  · simp [List.getD, List.getElem?_eq_none hi, V.fit]
theorem fits_take {F : Nat → Prop} {l : List V} (h : V.fits F l) (k : Nat) : V.fits F (l.take k) := (fits_iff F _).2 fun x hx => (fits_iff F l).1 h x (List.mem_of_mem_take hx)
theorem fits_drop {F : Nat → Prop} {l : List V} (h : V.fits F l) (k : Nat) : V.fits F (l.drop k) := (fits_iff F _).2 fun x hx => (fits_iff F l).1 h x (List.mem_of_mem_drop hx)
theorem fits_append {F : Nat → Prop} {l r : List V} (h : V.fits F l) (k : V.fits F r) : V.fits F (l ++ r) := (fits_iff F _).2 fun x hx => (List.mem_append.1 hx).elim ((fits_iff F l).1 h x) ((fits_iff F r).1 k x)
theorem fit_cells {F : Nat → Prop} {x : V} (h : x.fit F) : V.fits F x.cells := by
  cases x <;> simp only [V.cells, V.fits, and_true] <;> first | exact h | (simp only [V.fit] at h; exact h)
theorem fit_pack {F : Nat → Prop} {l : List V} (ag : Bool) (h : V.fits F l) : (pack ag l).fit F := by
  cases ag
  · simp only [pack, Bool.false_eq_true, if_false]
    cases l with
    | nil => simp [V.fit]
    | cons x r => exact h.1
  · simpa only [pack, if_true, V.fit] using h
theorem fits_setAt {F : Nat → Prop} {z l : List V} (k : Nat) (h : V.fits F z) (h' : V.fits F l) : V.fits F (setAt z k l) := fits_append (fits_append (fits_take h k) h') (fits_drop h _)
theorem fit_recell {F : Nat → Prop} {x : V} {l : List V} (h : V.fits F l) : (x.recell l).fit F := by
  cases x <;> simp only [V.recell] <;> first
    | (simp only [V.fit]; exact h)
    | (cases l with
       | nil => simp [V.fit]
       | cons y r => exact h.1)
theorem fits_set {F : Nat → Prop} {l : List V} {x : V} (k : Nat) (h : V.fits F l) (h' : x.fit F) : V.fits F (l.set k x) := (fits_iff F _).2 fun y hy => (List.mem_or_eq_of_mem_set hy).elim ((fits_iff F l).1 h y) fun e => e ▸ h'

theorem ev_fit {F : Nat → Prop} {s : St} (h : SFit F s) {x : Src} (hx : srcImm x = true) : (s.ev x).fit F := by
  cases x with
  | t n => exact h.env n
  | k v => exact imm_fit F hx

theorem view_fit {F : Nat → Prop} {s : St} (h : SFit F s) : ∀ (k : Nat) {x : V}, x.fit F → (view s.L k x).fit F := by
  intro k
  induction k with
  | zero => intro x hx; have e : view s.L 0 x = x := by cases x <;> rfl
            rw [e]; exact hx
  | succ k ih =>
    intro x hx
    cases x with
    | own id sz off len =>
      simp only [view]
      split
      · rename_i sz' es hL
        split
        · simp only [V.fit]
          refine (fits_iff F _).2 fun y hy => ?_
          obtain ⟨y0, h0, rfl⟩ := List.mem_map.1 hy
          exact ih ((fits_iff F es).1 (h.blk _ _ hL).2 y0 (List.mem_of_mem_drop (List.mem_of_mem_take h0)))
        · exact hx
      · exact hx
    | agg cs =>
      simp only [view, V.fit] at hx ⊢
      refine (fits_iff F _).2 fun y hy => ?_
      obtain ⟨y0, h0, rfl⟩ := List.mem_map.1 hy
      exact ih ((fits_iff F cs).1 hx y0 h0)
    | tup cs =>
      simp only [view, V.fit] at hx ⊢
      refine (fits_iff F _).2 fun y hy => ?_
      obtain ⟨y0, h0, rfl⟩ := List.mem_map.1 hy
      exact ih ((fits_iff F cs).1 hx y0 h0)
    | _ => exact hx

/-- what is read lies within Fr, and so does what is found there -/
def Closed (Fr : Nat → Prop) (s : St) : Prop := ∀ id b, Fr id → s.L id = some b → b.fit Fr

theorem view_congr {F : Nat → Prop} {s : St} (h : Closed F s) {L2 : Heap} (hL : ∀ id, F id → L2 id = s.L id) : ∀ (k : Nat) {x : V}, x.fit F → view L2 k x = view s.L k x := by
  intro k
  induction k with
  | zero => intro x hx; cases x <;> rfl
  | succ k ih =>
    intro x hx
    cases x with
    | own id sz off len =>
      simp only [V.fit] at hx
      simp only [view, hL id hx]
      cases hb : s.L id with
      | none => rfl
      | some b =>
        cases b with
        | vec ty0 sz' es =>
          simp only
          have : ((es.drop off).take len).map (view L2 k) = ((es.drop off).take len).map (view s.L k) := List.map_congr_left fun y hy =>
            ih ((fits_iff F es).1 (h _ _ hx hb) y (List.mem_of_mem_drop (List.mem_of_mem_take hy)))
          rw [this]
        | _ => rfl
    | agg cs =>
      simp only [V.fit] at hx
      simp only [view]
      rw [List.map_congr_left fun y hy => ih ((fits_iff F cs).1 hx y hy)]
    | tup cs =>
      simp only [V.fit] at hx
      simp only [view]
      rw [List.map_congr_left fun y hy => ih ((fits_iff F cs).1 hx y hy)]
    | _ => rfl

end Go.Ab
