/- The checked weakest precondition: arithmetic without overflow, but where a slot is listed; it implies the plain one. No condition. -/
import Derived.Test.YtbipjhcnooellaaAbW
namespace Go.Ab
set_option linter.unusedVariables false
set_option linter.unusedSimpArgs false

/-- the number fits its kind -/
def InR (k : IntKind) (x : Int) : Prop := match k with
  | .i8 => -128 ≤ x ∧ x ≤ 127
  | .i16 => -32768 ≤ x ∧ x ≤ 32767
  | .i32 => -2147483648 ≤ x ∧ x ≤ 2147483647
  | .i64 => -9223372036854775808 ≤ x ∧ x ≤ 9223372036854775807
  | .u8 => 0 ≤ x ∧ x ≤ 255
  | .u16 => 0 ≤ x ∧ x ≤ 65535
  | .u32 => 0 ≤ x ∧ x ≤ 4294967295
  | .u64 => 0 ≤ x ∧ x ≤ 18446744073709551615

theorem InR.wrap {k : IntKind} {x : Int} (h : InR k x) : k.wrap x = x := by
  cases k <;> simp only [InR] at h <;> obtain ⟨h1, h2⟩ := h <;> unfold IntKind.wrap <;> simp [IntKind.bits, IntKind.signed] <;> omega

def vbinC (op : BinOp) (x y : V) (K : V → Prop) : Prop :=
  match op, x, y with
  | .add, .int k a, .int k' b => k = k' ∧ InR k (a + b) ∧ K (.int k (a + b))
  | .sub, .int k a, .int k' b => k = k' ∧ InR k (a - b) ∧ K (.int k (a - b))
  | .mul, .int k a, .int k' b => k = k' ∧ InR k (a * b) ∧ K (.int k (a * b))
  | .quo, .int k a, .int k' b => k = k' ∧ b ≠ 0 ∧ InR k (a.tdiv b) ∧ K (.int k (a.tdiv b))
  | op, x, y => vbin op x y K
theorem vbinC_sound {op : BinOp} {x y : V} {K : V → Prop} (h : vbinC op x y K) : vbin op x y K := by
  unfold vbinC at h
  split at h
  · obtain ⟨rfl, h1, h2⟩ := h; exact ⟨rfl, by simpa only [vint, h1.wrap] using h2⟩
  · obtain ⟨rfl, h1, h2⟩ := h; exact ⟨rfl, by simpa only [vint, h1.wrap] using h2⟩
  · obtain ⟨rfl, h1, h2⟩ := h; exact ⟨rfl, by simpa only [vint, h1.wrap] using h2⟩
  · obtain ⟨rfl, h0, h1, h2⟩ := h; exact ⟨rfl, h0, by simpa only [h1.wrap] using h2⟩
  · exact h
def vunC (op : UnOp) (x : V) (K : V → Prop) : Prop :=
  match op, x with
  | .neg, .int k a => InR k (0 - a) ∧ K (.int k (0 - a))
  | op, x => vun op x K
theorem vunC_sound {op : UnOp} {x : V} {K : V → Prop} (h : vunC op x K) : vun op x K := by
  unfold vunC at h
  split at h
  · obtain ⟨h1, h2⟩ := h
    simp only [vun, h1.wrap]
    exact h2
  · exact h
def vcvtC (k : IntKind) (x : V) (K : V → Prop) : Prop :=
  match x with
  | .int _ n => InR k n ∧ K (.int k n)
  | _ => False

def wrD (wr : List Nat) : Option Nat → Bool
  | some d => wr.contains d
  | none => false

def istepC (P : Program) (wr : List Nat) : I → St → (St → Prop) → Prop
  | .bin d op x y, s, K => if wrD wr d then istep P (.bin d op x y) s K else vbinC op (s.ev x) (s.ev y) fun v => K (s.setO d v)
  | .un d op x, s, K => if wrD wr d then istep P (.un d op x) s K else vunC op (s.ev x) fun v => K (s.setO d v)
  | .cvt d k x, s, K => if wrD wr d then istep P (.cvt d k x) s K else vcvtC k (s.ev x) fun v => K (s.setO d v)
  | i, s, K => istep P i s K

theorem istepC_sound {P : Program} {wr : List Nat} {i : I} {s : St} {K : St → Prop} (h : istepC P wr i s K) : istep P i s K := by
  cases i with
  | bin d op x y =>
    simp only [istepC] at h
    split at h
    · exact h
    · exact vbinC_sound h
  | un d op x =>
    simp only [istepC] at h
    split at h
    · exact h
    · exact vunC_sound h
  | cvt d k x =>
    simp only [istepC] at h
    split at h
    · exact h
    · simp only [istep]
      unfold vcvtC at h
      split at h
      · rename_i e
        obtain ⟨h1, h2⟩ := h
        rw [e]
        simp only [h1.wrap]
        exact h2
      · exact h.elim
  | _ => exact h

def istepsC (P : Program) (wr : List Nat) : List I → St → (St → Prop) → Prop
  | [], s, K => K s
  | i :: r, s, K => istepC P wr i s fun s => istepsC P wr r s K
theorem istepsC_sound {P : Program} {wr : List Nat} : ∀ {l : List I} {s : St} {K K' : St → Prop}, istepsC P wr l s K → (∀ s, K s → K' s) → isteps P l s K'
  | [], s, K, K', h, hk => hk s h
  | i :: r, s, K, K', h, hk => istep_mono (istepC_sound h) fun s' h' => istepsC_sound h' hk

def grunC (P : Program) (wr : List Nat) (x : Grp) (s : St) (K : St → Prop) : Prop :=
  match x.g with
  | none => istepsC P wr x.l s K
  | some (t, w) => match s.env t with
    | .bool b => (b = w → istepsC P wr x.l (s.set t (.bool w)) K) ∧ (b = !w → K (skips x.l (s.set t (.bool !w))))
    | .tup [] => K (skips x.l s)
    | _ => False
theorem grunC_sound {P : Program} {wr : List Nat} {x : Grp} {s : St} {K K' : St → Prop} (h : grunC P wr x s K) (hk : ∀ s, K s → K' s) : grun P x s K' := by
  obtain ⟨g, l⟩ := x
  cases g with
  | none => exact istepsC_sound h hk
  | some g =>
    obtain ⟨t, w⟩ := g
    simp only [grunC] at h
    simp only [grun]
    split at h
    · rename_i b e
      simp only [e]
      exact ⟨fun e => istepsC_sound (h.1 e) hk, fun e => hk _ (h.2 e)⟩
    · rename_i e
      simp only [e]
      exact hk _ h
    · exact h.elim

def grunsC (P : Program) (wr : List Nat) : List Grp → St → (St → Prop) → Prop
  | [], s, K => K s
  | x :: r, s, K => grunC P wr x s fun s => grunsC P wr r s K
theorem grunsC_sound {P : Program} {wr : List Nat} : ∀ {l : List Grp} {s : St} {K K' : St → Prop}, grunsC P wr l s K → (∀ s, K s → K' s) → gruns P l s K'
  | [], s, K, K', h, hk => hk s h
  | i :: r, s, K, K', h, hk => grunC_sound h fun s' h' => grunsC_sound h' hk

def awpC (P : Program) (n : Nat) (wr : List Nat) : C → (X → St → Prop) → St → Prop
  | .skip, K, s => K .norm s
  | .bad, _, _ => False
  | .ops _ l, K, s => grunsC P wr l s fun s => K .norm (s.past n)
  | .seq a b, K, s => awpC P n wr a (seqK (awpC P n wr b K) K) s
  | .seqc a b, K, s => ∃ M : St → Prop, awpC P n wr a (seqK M K) s ∧ ∀ s, M s → awpC P n wr b K s
  | .cond x a b, K, s => match x, s.ev x with
    | .t m, .bool t => (t = true → awpC P n wr a K (s.set m (.bool true))) ∧ (t = false → awpC P n wr b K (s.set m (.bool false)))
    | .k _, .bool t => if t then awpC P n wr a K s else awpC P n wr b K s
    | _, _ => False
  | .block id a, K, s => awpC P n wr a (blkK id K) s
  | .loop a, K, s => ∃ J : Nat → St → Prop, (∃ m, J m s) ∧ ∀ m s, J m s → awpC P n wr a (seqK (fun s => ∃ m', m' < m ∧ J m' s) K) s
  | .exit id, K, s => K (.exit id) s
  | .ret, K, s => K .ret s
  | .gh g a, K, s => ghstep g s (awpC P n wr a K)
  | .gha g a, K, s => awpC P n wr a (seqK (fun s => ghstep g s (K .norm)) K) s

theorem ghstep_mono {g : Gh} {s : St} {K K' : St → Prop} (h : ghstep g s K) (hk : ∀ s, K s → K' s) : ghstep g s K' := by
  unfold ghstep at h ⊢
  split at h
  · exact ⟨h.1, hk _ h.2⟩
  · split at h
    · split at h
      · exact ⟨h.1, h.2.1, hk _ h.2.2⟩
      · exact h.elim
    · exact h.elim
  · obtain ⟨M, h1, h2⟩ := h; exact ⟨M, h1, fun s hs => hk s (h2 s hs)⟩
  · obtain ⟨s', h1, h2⟩ := h; exact ⟨s', h1, hk s' h2⟩
  · split at h
    · split at h
      · exact fun a ha => ⟨fun e => hk _ ((h a ha).1 e), fun e => hk _ ((h a ha).2 e)⟩
      · exact h.elim
    · exact h.elim
  · split at h
    · split at h
      · refine ⟨h.1, ?_⟩
        have h := h.2
        split at h
        · exact hk _ h
        · refine ⟨h.1, h.2.1, ?_⟩
          have h := h.2.2
          split at h
          · obtain ⟨a, b, bs, c, d⟩ := h
            exact ⟨a, b, bs, c, hk _ d⟩
          · exact h.elim
        · exact h.elim
      · exact h.elim
    · exact h.elim

theorem seqK_mono {N N' : St → Prop} {K K' : X → St → Prop} (h1 : ∀ s, N s → N' s) (h2 : ∀ x s, K x s → K' x s) : ∀ x s, seqK N K x s → seqK N' K' x s := by
  intro x s h
  cases x with
  | norm => exact h1 s h
  | exit n => exact h2 _ s h
  | ret => exact h2 _ s h
theorem blkK_mono {id : Nat} {K K' : X → St → Prop} (h2 : ∀ x s, K x s → K' x s) : ∀ x s, blkK id K x s → blkK id K' x s := by
  intro x s h
  cases x with
  | norm => exact h2 _ s h
  | exit n =>
    simp only [blkK] at h ⊢
    split
    · rename_i e; simp only [e, if_true] at h; exact h2 _ s h
    · rename_i e; simp only [e, if_false] at h; exact h2 _ s h
  | ret => exact h2 _ s h

theorem awpC_sound {P : Program} {n : Nat} {wr : List Nat} : ∀ (c : C) {K K' : X → St → Prop} {s : St}, awpC P n wr c K s → (∀ x s, K x s → K' x s) → awp P n c K' s := by
  intro c
  induction c with
  | skip => intro K K' s h hk; exact hk _ _ h
  | bad => intro K K' s h hk; exact h.elim
  | ops d l => intro K K' s h hk; exact grunsC_sound h fun s h => hk _ _ h
  | seq a b iha ihb => intro K K' s h hk; exact iha h (seqK_mono (fun s h => ihb h hk) hk)
  | seqc a b iha ihb =>
    intro K K' s h hk
    obtain ⟨M, h1, h2⟩ := h
    exact ⟨M, iha h1 (seqK_mono (fun s h => h) hk), fun s hs => ihb (h2 s hs) hk⟩
  | cond x a b iha ihb =>
    intro K K' s h hk
    simp only [awpC] at h
    simp only [awp]
    split at h
    · rename_i m t e
      simp only [e]
      exact ⟨fun e => iha (h.1 e) hk, fun e => ihb (h.2 e) hk⟩
    · rename_i m t e
      simp only [e]
      split at h
      · rename_i e2; simp only [e2, if_true]; exact iha h hk
      · rename_i e2; simp only [e2]; exact ihb h hk
    · exact h.elim
  | block id a iha => intro K K' s h hk; exact iha h (blkK_mono hk)
  | loop a iha =>
    intro K K' s h hk
    obtain ⟨J, h0, h1⟩ := h
    exact ⟨J, h0, fun m s hj => iha (h1 m s hj) (seqK_mono (fun s h => h) hk)⟩
  | exit id => intro K K' s h hk; exact hk _ _ h
  | ret => intro K K' s h hk; exact hk _ _ h
  | gh g a iha => intro K K' s h hk; exact ghstep_mono h fun s h => iha h hk
  | gha g a iha => intro K K' s h hk; exact iha h (seqK_mono (fun s h => ghstep_mono h fun s h => hk _ _ h) hk)

theorem ptrC {P : Program} {n f : Nat} {rs : List RV} {c : C} (wr : List Nat) {args : List V} {r : V} (hf : Fn P f n rs c) (hn : args.length ≤ n) (hi : r.imm = true)
    (h : awpC P n wr c (endK rs fun r' L' _ => view L' 3 r' = r) (.enter args (fun _ => none) 0)) : PTr P f args r :=
  ptr_of hf hn hi (awpC_sound c h fun _ _ h => h)
theorem ecallC {P : Program} {n f : Nat} {rs : List RV} {c : C} (wr : List Nat) {args : List V} {L : Heap} {nx : Nat} {post : V → Heap → Nat → Prop} (hf : Fn P f n rs c) (hn : args.length ≤ n)
    (h : awpC P n wr c (endK rs fun r L' nx' => nx ≤ nx' ∧ post r L' nx') (.enter args L nx)) : ECall P f args L nx post :=
  ecall_of hf hn (awpC_sound c h fun _ _ h => h)
end Go.Ab
