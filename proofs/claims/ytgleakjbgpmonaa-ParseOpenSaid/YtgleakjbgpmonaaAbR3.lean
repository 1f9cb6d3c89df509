/- ParseNests and ParseRuns. No condition. -/
import Derived.Test.YtgleakjbgpmonaaAbR1
namespace Go.Ab
set_option linter.unusedVariables false
set_option linter.unusedSimpArgs false

variable {P : Program} {F T : Nat → Nat}

/-- strings.Repeat -/
def Rps (P : Program) (F : Nat → Nat) : Prop := ∀ (s : List UInt8) (n : Nat), n ≤ 2 ^ 30 → s.length * n ≤ 2 ^ 30 → PTr P (F 42) [.str s, .int .i64 n] (.str (Go.Lib.repeatL s n))

theorem rps_of (h : ∀ (s : ByteArray) (c : Nat) (w : World), c ≤ 9223372036854775807 → s.size * c ≤ 140737488355328 →
    Calls P (F 42) #[.string s, .int .i64 c] w fun e w' => e = .returned (.string ⟨(Go.Lib.repeatL s.data.toList c).toArray⟩) ∧ Go.RowKit.Below w.heap.size w w') : Rps P F := by
  intro s n hn hl D w vs hD hg hle hr
  obtain ⟨u, v, rfl, hu, hv⟩ := vs2 hle hr
  cases hu; cases hv
  refine (h ⟨s.toArray⟩ n w (by omega) (by simp [ByteArray.size]; omega)).mono ?_
  rintro e w' ⟨rfl, hb⟩
  refine ⟨_, rfl, hb, ?_⟩
  exact .str _ (by rw [Go.Lib.repeatL_length, Nat.mul_comm]; omega)

theorem and_small (n : Int) (m : Nat) (hm : m < 2 ^ 62) : ∃ k : Nat, k ≤ m ∧ vbits .and .i64 n m = k := by
  have h : ((BitVec.ofInt 64 n) &&& (BitVec.ofInt 64 m)).toNat ≤ m := by
    rw [BitVec.toNat_and]
    refine Nat.le_trans Nat.and_le_right ?_
    simp
    omega
  refine ⟨((BitVec.ofInt 64 n) &&& (BitVec.ofInt 64 m)).toNat, h, ?_⟩
  have h2 : InR .i64 (((BitVec.ofInt 64 n) &&& (BitVec.ofInt 64 m)).toNat : Int) := ⟨by omega, by omega⟩
  exact InR.wrap h2

/-- how many calls lie within one another in the first places -/
def callsF : Nat → List Node → Nat
  | 0, _ => 0
  | f + 1, .mk k _ _ _ (.mk _ _ v :: _) :: _ => if k = 4 then callsF f v + 1 else 0
  | _ + 1, _ => 0
def nestT (n : Nat) : List UInt8 := Go.Lib.repeatL [123, 123, 97, 124] n ++ Go.Lib.repeatL [125, 125] n
theorem nest_eq : ((List.range 32).all fun n => callsF 40 (parseF (nestT n)) == min n 20) = true := by kernel_rfl

theorem nest_calls {n : Nat} (h : n ≤ 31) : callsF 40 (parseF (nestT n)) = min n 20 := by
  have := List.all_eq_true.1 nest_eq n (List.mem_range.2 (by omega))
  simpa using this
theorem rep_len (s : List UInt8) : ∀ n, (Go.Lib.repeatL s n).length = n * s.length := Go.Lib.repeatL_length s
end Go.Ab
