/- The equations of the abstract machine, for symbolic execution. No condition. -/
import Derived.Test.YtbipjhcnooellaaAbSw
namespace Go.Ab
set_option linter.unusedVariables false
set_option linter.unusedSimpArgs false

theorem x_mov {P : Program} {wr : List Nat} {s : St} {K : St → Prop} {d x} : istepC P wr (.mov d x) s K = (K (s.setO d (s.ev x))) := by unfold istepC istep; rfl
def v_pick (d : Option Nat) (a : V) (b : V) (a1 : V) (s : St) (K : St → Prop) : Prop :=
  match a1 with
  | .bool t => K (s.setO d (if t then a else b))
  | _ => False
theorem x_pick {P : Program} {wr : List Nat} {s : St} {K : St → Prop} {d c a b} : istepC P wr (.pick d c a b) s K = v_pick d (s.ev a) (s.ev b) (s.ev c) s K := by unfold istepC istep v_pick ; rfl
def v_eqA (d : Option Nat) (neg : Bool) (ks : List Nat) (a1 : V) (a2 : V) (s : St) (K : St → Prop) : Prop :=
  match a1, a2 with
  | .agg a, .agg b => ∃ t, cellsEq ks a b = some t ∧ K (s.setO d (.bool (t != neg)))
  | _, _ => False
theorem x_eqA {P : Program} {wr : List Nat} {s : St} {K : St → Prop} {d neg ks x y} : istepC P wr (.eqA d neg ks x y) s K = v_eqA d neg ks (s.ev x) (s.ev y) s K := by unfold istepC istep v_eqA ; rfl
def v_eqB (d : Option Nat) (neg : Bool) (a1 : V) (a2 : V) (s : St) (K : St → Prop) : Prop :=
  match a1, a2 with
  | .bool a, .bool b => K (s.setO d (.bool ((a == b) != neg)))
  | _, _ => False
theorem x_eqB {P : Program} {wr : List Nat} {s : St} {K : St → Prop} {d neg x y} : istepC P wr (.eqB d neg x y) s K = v_eqB d neg (s.ev x) (s.ev y) s K := by unfold istepC istep v_eqB ; rfl
theorem v_eqB_e0 {s : St} {K : St → Prop} {d neg a b} : v_eqB d neg (.bool a) (.bool b) s K = (K (s.setO d (.bool ((a == b) != neg)))) := by unfold v_eqB; rfl
def v_isnil (d : Option Nat) (neg : Bool) (a1 : Nat) (a2 : V) (s : St) (K : St → Prop) : Prop :=
  match a1, a2 with
  | 0, .nilp => K (s.setO d (.bool !neg))
  | 1, .nils => K (s.setO d (.bool !neg))
  | 2, .nilm => K (s.setO d (.bool !neg))
  | 0, .ptr q0 q1 => K (s.setO d (.bool neg))
  | 0, .eptr q0 q1 q2 => K (s.setO d (.bool neg))
  | 0, .cptr q0 => K (s.setO d (.bool neg))
  | 2, .map q0 => K (s.setO d (.bool neg))
  | 1, .lst q0 es => 0 < es.length ∧ K (s.setO d (.bool neg))
  | 1, .own q0 q1 q2 len => 0 < len ∧ K (s.setO d (.bool neg))
  | _, _ => False
theorem x_isnil {P : Program} {wr : List Nat} {s : St} {K : St → Prop} {d neg kd x} : istepC P wr (.isnil d neg kd x) s K = v_isnil d neg (kd) (s.ev x) s K := by unfold istepC istep v_isnil ; rfl
theorem v_isnil_e0 {s : St} {K : St → Prop} {d neg} : v_isnil d neg (0) (.nilp) s K = (K (s.setO d (.bool !neg))) := by unfold v_isnil; rfl
theorem v_isnil_e1 {s : St} {K : St → Prop} {d neg} : v_isnil d neg (1) (.nils) s K = (K (s.setO d (.bool !neg))) := by unfold v_isnil; rfl
theorem v_isnil_e2 {s : St} {K : St → Prop} {d neg} : v_isnil d neg (2) (.nilm) s K = (K (s.setO d (.bool !neg))) := by unfold v_isnil; rfl
theorem v_isnil_e3 {s : St} {K : St → Prop} {d neg q0 q1} : v_isnil d neg (0) (.ptr q0 q1) s K = (K (s.setO d (.bool neg))) := by unfold v_isnil; rfl
theorem v_isnil_e4 {s : St} {K : St → Prop} {d neg q0 q1 q2} : v_isnil d neg (0) (.eptr q0 q1 q2) s K = (K (s.setO d (.bool neg))) := by unfold v_isnil; rfl
theorem v_isnil_e5 {s : St} {K : St → Prop} {d neg q0} : v_isnil d neg (0) (.cptr q0) s K = (K (s.setO d (.bool neg))) := by unfold v_isnil; rfl
theorem v_isnil_e6 {s : St} {K : St → Prop} {d neg q0} : v_isnil d neg (2) (.map q0) s K = (K (s.setO d (.bool neg))) := by unfold v_isnil; rfl
theorem v_isnil_e7 {s : St} {K : St → Prop} {d neg q0 es} : v_isnil d neg (1) (.lst q0 es) s K = (0 < es.length ∧ K (s.setO d (.bool neg))) := by unfold v_isnil; rfl
theorem v_isnil_e8 {s : St} {K : St → Prop} {d neg q0 q1 q2 len} : v_isnil d neg (1) (.own q0 q1 q2 len) s K = (0 < len ∧ K (s.setO d (.bool neg))) := by unfold v_isnil; rfl
def v_cvs (d : Option Nat) (a1 : V) (s : St) (K : St → Prop) : Prop :=
  match a1 with
  | .str t => K (s.setO d (.str t))
  | _ => False
theorem x_cvs {P : Program} {wr : List Nat} {s : St} {K : St → Prop} {d x} : istepC P wr (.cvs d x) s K = v_cvs d (s.ev x) s K := by unfold istepC istep v_cvs ; rfl
theorem v_cvs_e0 {s : St} {K : St → Prop} {d t} : v_cvs d (.str t) s K = (K (s.setO d (.str t))) := by unfold v_cvs; rfl
theorem x_build {P : Program} {wr : List Nat} {s : St} {K : St → Prop} {d zero parts} : istepC P wr (.build d zero parts) s K = ((∀ p ∈ parts, (s.ev p.2.2).ncells = some p.2.1) ∧ K (s.setO d (.agg (parts.foldl (fun cs p => setAt cs p.1 (s.ev p.2.2).cells) zero)))) := by unfold istepC istep; rfl
def v_field (d : Option Nat) (off : Nat) (sz : Nat) (ag : Bool) (a1 : V) (s : St) (K : St → Prop) : Prop :=
  match a1 with
  | .agg cs => off + sz ≤ cs.length ∧ K (s.setO d (pack ag ((cs.drop off).take sz)))
  | _ => False
theorem x_field {P : Program} {wr : List Nat} {s : St} {K : St → Prop} {d off sz ag x} : istepC P wr (.field d off sz ag x) s K = v_field d off sz ag (s.ev x) s K := by unfold istepC istep v_field ; rfl
theorem v_field_e0 {s : St} {K : St → Prop} {d off sz ag cs} : v_field d off sz ag (.agg cs) s K = (off + sz ≤ cs.length ∧ K (s.setO d (pack ag ((cs.drop off).take sz)))) := by unfold v_field; rfl
def v_ext (d : Option Nat) (i : Nat) (a1 : V) (s : St) (K : St → Prop) : Prop :=
  match a1 with
  | .tup cs => i < cs.length ∧ K (s.setO d (cs.getD i .junk))
  | _ => False
theorem x_ext {P : Program} {wr : List Nat} {s : St} {K : St → Prop} {d i x} : istepC P wr (.ext d i x) s K = v_ext d i (s.ev x) s K := by unfold istepC istep v_ext ; rfl
theorem v_ext_e0 {s : St} {K : St → Prop} {d i cs} : v_ext d i (.tup cs) s K = (i < cs.length ∧ K (s.setO d (cs.getD i .junk))) := by unfold v_ext; rfl
def v_idx (d : Option Nat) (a1 : V) (a2 : V) (s : St) (K : St → Prop) : Prop :=
  match a1, a2 with
  | .str t, .int q0 n => 0 ≤ n ∧ n.toNat < t.length ∧ K (s.setO d (.int .u8 (t.getD n.toNat 0).toNat))
  | _, _ => False
theorem x_idx {P : Program} {wr : List Nat} {s : St} {K : St → Prop} {d x i} : istepC P wr (.idx d x i) s K = v_idx d (s.ev x) (s.ev i) s K := by unfold istepC istep v_idx ; rfl
theorem v_idx_e0 {s : St} {K : St → Prop} {d t q0 n} : v_idx d (.str t) (.int q0 n) s K = (0 ≤ n ∧ n.toNat < t.length ∧ K (s.setO d (.int .u8 (t.getD n.toNat 0).toNat))) := by unfold v_idx; rfl
def v_idxA (d : Option Nat) (n : Nat) (sz : Nat) (ag : Bool) (a1 : V) (a2 : V) (s : St) (K : St → Prop) : Prop :=
  match a1, a2 with
  | .agg cs, .int q0 j => 0 ≤ j ∧ j < n ∧ n * sz ≤ cs.length ∧ K (s.setO d (pack ag ((cs.drop (j.toNat * sz)).take sz)))
  | _, _ => False
theorem x_idxA {P : Program} {wr : List Nat} {s : St} {K : St → Prop} {d n sz ag x i} : istepC P wr (.idxA d n sz ag x i) s K = v_idxA d n sz ag (s.ev x) (s.ev i) s K := by unfold istepC istep v_idxA ; rfl
theorem v_idxA_e0 {s : St} {K : St → Prop} {d n sz ag cs q0 j} : v_idxA d n sz ag (.agg cs) (.int q0 j) s K = (0 ≤ j ∧ j < n ∧ n * sz ≤ cs.length ∧ K (s.setO d (pack ag ((cs.drop (j.toNat * sz)).take sz)))) := by unfold v_idxA; rfl
def v_slcS (d : Option Nat) (lo : Option V) (hi : Option V) (a1 : V) (s : St) (K : St → Prop) : Prop :=
  match a1 with
  | .str t => bound lo 0 fun l => bound hi t.length fun h => l ≤ h ∧ h ≤ t.length ∧ K (s.setO d (.str ((t.take h).drop l)))
  | _ => False
theorem x_slcS {P : Program} {wr : List Nat} {s : St} {K : St → Prop} {d x lo hi} : istepC P wr (.slcS d x lo hi) s K = v_slcS d (lo.map s.ev) (hi.map s.ev) (s.ev x) s K := by unfold istepC istep v_slcS ; rfl
def v_slc (d : Option Nat) (sz : Nat) (lo : Option V) (hi : Option V) (a1 : V) (s : St) (K : St → Prop) : Prop :=
  match a1 with
  | .nils => bound lo 0 fun l => bound hi 0 fun h => l ≤ h ∧ h ≤ 0 ∧ K (s.setO d .nils)
  | .lst sz' es => sz' = sz ∧ bound lo 0 fun l => bound hi es.length fun h => l ≤ h ∧ h ≤ es.length ∧ K (s.setO d (.lst sz ((es.take h).drop l)))
  | .own id sz' off n => sz' = sz ∧ bound lo 0 fun l => bound hi n fun h => l ≤ h ∧ h ≤ n ∧ K (s.setO d (.own id sz (off + l) (h - l)))
  | _ => False
theorem x_slc {P : Program} {wr : List Nat} {s : St} {K : St → Prop} {d sz x lo hi} : istepC P wr (.slc d sz x lo hi) s K = v_slc d sz (lo.map s.ev) (hi.map s.ev) (s.ev x) s K := by unfold istepC istep v_slc ; rfl
def v_len (d : Option Nat) (a1 : Bool) (a2 : V) (s : St) (K : St → Prop) : Prop :=
  match a1, a2 with
  | true, .str t => K (s.setO d (.int .i64 t.length))
  | false, .nils => K (s.setO d (.int .i64 0))
  | false, .lst q0 es => K (s.setO d (.int .i64 es.length))
  | false, .own q0 q1 q2 n => K (s.setO d (.int .i64 n))
  | _, _ => False
theorem x_len {P : Program} {wr : List Nat} {s : St} {K : St → Prop} {d st x} : istepC P wr (.len d st x) s K = v_len d (st) (s.ev x) s K := by unfold istepC istep v_len ; rfl
theorem v_len_e0 {s : St} {K : St → Prop} {d t} : v_len d (true) (.str t) s K = (K (s.setO d (.int .i64 t.length))) := by unfold v_len; rfl
theorem v_len_e1 {s : St} {K : St → Prop} {d} : v_len d (false) (.nils) s K = (K (s.setO d (.int .i64 0))) := by unfold v_len; rfl
theorem v_len_e2 {s : St} {K : St → Prop} {d q0 es} : v_len d (false) (.lst q0 es) s K = (K (s.setO d (.int .i64 es.length))) := by unfold v_len; rfl
theorem v_len_e3 {s : St} {K : St → Prop} {d q0 q1 q2 n} : v_len d (false) (.own q0 q1 q2 n) s K = (K (s.setO d (.int .i64 n))) := by unfold v_len; rfl
def v_fadr (d : Option Nat) (off : Nat) (a1 : V) (s : St) (K : St → Prop) : Prop :=
  match a1 with
  | .cptr cs => K (s.setO d (.cptr (cs.drop off)))
  | .ptr id o => K (s.setO d (.ptr id (o + off)))
  | .eptr id i j => K (s.setO d (.eptr id i (j + off)))
  | _ => False
theorem x_fadr {P : Program} {wr : List Nat} {s : St} {K : St → Prop} {d off x} : istepC P wr (.fadr d off x) s K = v_fadr d off (s.ev x) s K := by unfold istepC istep v_fadr ; rfl
theorem v_fadr_e0 {s : St} {K : St → Prop} {d off cs} : v_fadr d off (.cptr cs) s K = (K (s.setO d (.cptr (cs.drop off)))) := by unfold v_fadr; rfl
theorem v_fadr_e1 {s : St} {K : St → Prop} {d off id o} : v_fadr d off (.ptr id o) s K = (K (s.setO d (.ptr id (o + off)))) := by unfold v_fadr; rfl
theorem v_fadr_e2 {s : St} {K : St → Prop} {d off id i j} : v_fadr d off (.eptr id i j) s K = (K (s.setO d (.eptr id i (j + off)))) := by unfold v_fadr; rfl
def v_iadr (d : Option Nat) (sz : Nat) (a1 : V) (a2 : V) (s : St) (K : St → Prop) : Prop :=
  match a1, a2 with
  | .lst sz' es, .int q0 n => sz' = sz ∧ 0 ≤ n ∧ n.toNat < es.length ∧ K (s.setO d (.cptr (es.getD n.toNat .junk).cells))
  | .own id sz' off len, .int q0 n => sz' = sz ∧ 0 ≤ n ∧ n.toNat < len ∧ K (s.setO d (.eptr id (off + n.toNat) 0))
  | _, _ => False
theorem x_iadr {P : Program} {wr : List Nat} {s : St} {K : St → Prop} {d sz x i} : istepC P wr (.iadr d sz x i) s K = v_iadr d sz (s.ev x) (s.ev i) s K := by unfold istepC istep v_iadr ; rfl
theorem v_iadr_e0 {s : St} {K : St → Prop} {d sz sz' es q0 n} : v_iadr d sz (.lst sz' es) (.int q0 n) s K = (sz' = sz ∧ 0 ≤ n ∧ n.toNat < es.length ∧ K (s.setO d (.cptr (es.getD n.toNat .junk).cells))) := by unfold v_iadr; rfl
theorem v_iadr_e1 {s : St} {K : St → Prop} {d sz id sz' off len q0 n} : v_iadr d sz (.own id sz' off len) (.int q0 n) s K = (sz' = sz ∧ 0 ≤ n ∧ n.toNat < len ∧ K (s.setO d (.eptr id (off + n.toNat) 0))) := by unfold v_iadr; rfl
def v_iadrA (d : Option Nat) (n : Nat) (sz : Nat) (a1 : V) (a2 : V) (s : St) (K : St → Prop) : Prop :=
  match a1, a2 with
  | .cptr cs, .int q0 j => 0 ≤ j ∧ j < n ∧ K (s.setO d (.cptr (cs.drop (j.toNat * sz))))
  | .ptr id o, .int q0 j => 0 ≤ j ∧ j < n ∧ K (s.setO d (.ptr id (o + j.toNat * sz)))
  | _, _ => False
theorem x_iadrA {P : Program} {wr : List Nat} {s : St} {K : St → Prop} {d n sz x i} : istepC P wr (.iadrA d n sz x i) s K = v_iadrA d n sz (s.ev x) (s.ev i) s K := by unfold istepC istep v_iadrA ; rfl
theorem v_iadrA_e0 {s : St} {K : St → Prop} {d n sz cs q0 j} : v_iadrA d n sz (.cptr cs) (.int q0 j) s K = (0 ≤ j ∧ j < n ∧ K (s.setO d (.cptr (cs.drop (j.toNat * sz))))) := by unfold v_iadrA; rfl
theorem v_iadrA_e1 {s : St} {K : St → Prop} {d n sz id o q0 j} : v_iadrA d n sz (.ptr id o) (.int q0 j) s K = (0 ≤ j ∧ j < n ∧ K (s.setO d (.ptr id (o + j.toNat * sz)))) := by unfold v_iadrA; rfl
def v_nchk (d : Option Nat) (a1 : V) (s : St) (K : St → Prop) : Prop :=
  match a1 with
  | .cptr cs => K (s.setO d (.cptr cs))
  | .ptr id o => K (s.setO d (.ptr id o))
  | .eptr id i j => K (s.setO d (.eptr id i j))
  | _ => False
theorem x_nchk {P : Program} {wr : List Nat} {s : St} {K : St → Prop} {d x} : istepC P wr (.nchk d x) s K = v_nchk d (s.ev x) s K := by unfold istepC istep v_nchk ; rfl
theorem v_nchk_e0 {s : St} {K : St → Prop} {d cs} : v_nchk d (.cptr cs) s K = (K (s.setO d (.cptr cs))) := by unfold v_nchk; rfl
theorem v_nchk_e1 {s : St} {K : St → Prop} {d id o} : v_nchk d (.ptr id o) s K = (K (s.setO d (.ptr id o))) := by unfold v_nchk; rfl
theorem v_nchk_e2 {s : St} {K : St → Prop} {d id i j} : v_nchk d (.eptr id i j) s K = (K (s.setO d (.eptr id i j))) := by unfold v_nchk; rfl
def v_load_1 (d : Option Nat) (c : Bool) (sz : Nat) (ag : Bool) (id : Nat) (o : Nat) (bl : Option Blk) (s : St) (K : St → Prop) : Prop :=
  match bl with
      | some (.box _ cs) => c = false ∧ o + sz ≤ cs.length ∧ K (s.setO d (pack ag ((cs.drop o).take sz)))
      | _ => False
def v_load_2 (d : Option Nat) (c : Bool) (sz : Nat) (ag : Bool) (id : Nat) (i : Nat) (j : Nat) (bl : Option Blk) (s : St) (K : St → Prop) : Prop :=
  match bl with
      | some (.vec _ sz' es) => c = false ∧ i < es.length ∧ j + sz ≤ sz' ∧ K (s.setO d (pack ag (((es.getD i .junk).cells.drop j).take sz)))
      | _ => False
def v_load (d : Option Nat) (c : Bool) (sz : Nat) (ag : Bool) (a1 : V) (s : St) (K : St → Prop) : Prop :=
  match a1 with
  | .cptr cs => sz ≤ cs.length ∧ K (s.setO d (pack ag (cs.take sz)))
  | .ptr id o => v_load_1 d c sz ag id o (s.L id) s K
  | .eptr id i j => v_load_2 d c sz ag id i j (s.L id) s K
  | _ => False
theorem x_load {P : Program} {wr : List Nat} {s : St} {K : St → Prop} {d c sz ag x} : istepC P wr (.load d c sz ag x) s K = v_load d c sz ag (s.ev x) s K := by unfold istepC istep v_load v_load_1 v_load_2; rfl
theorem v_load_e0 {s : St} {K : St → Prop} {d c sz ag cs} : v_load d c sz ag (.cptr cs) s K = (sz ≤ cs.length ∧ K (s.setO d (pack ag (cs.take sz)))) := by unfold v_load; rfl
theorem v_load_1_0 {s : St} {K : St → Prop} {d c sz ag id o r0 cs} : v_load_1 d c sz ag id o (some (.box r0 cs)) s K = (c = false ∧ o + sz ≤ cs.length ∧ K (s.setO d (pack ag ((cs.drop o).take sz)))) := by unfold v_load_1; rfl
theorem v_load_e1 {s : St} {K : St → Prop} {d c sz ag id o} : v_load d c sz ag (.ptr id o) s K = (v_load_1 d c sz ag id o (s.L id) s K) := by unfold v_load; rfl
theorem v_load_2_0 {s : St} {K : St → Prop} {d c sz ag id i j r0 sz' es} : v_load_2 d c sz ag id i j (some (.vec r0 sz' es)) s K = (c = false ∧ i < es.length ∧ j + sz ≤ sz' ∧ K (s.setO d (pack ag (((es.getD i .junk).cells.drop j).take sz)))) := by unfold v_load_2; rfl
theorem v_load_e2 {s : St} {K : St → Prop} {d c sz ag id i j} : v_load d c sz ag (.eptr id i j) s K = (v_load_2 d c sz ag id i j (s.L id) s K) := by unfold v_load; rfl
def v_store_0 (sz : Nat) (v : V) (id : Nat) (o : Nat) (bl : Option Blk) (s : St) (K : St → Prop) : Prop :=
  match bl with
      | some (.box ty cs) => (v).ncells = some sz ∧ o + sz ≤ cs.length ∧ K (s.put id (.box ty (setAt cs o (v).cells)))
      | _ => False
def v_store_1 (sz : Nat) (v : V) (id : Nat) (i : Nat) (j : Nat) (bl : Option Blk) (s : St) (K : St → Prop) : Prop :=
  match bl with
      | some (.vec ty sz' es) => (v).ncells = some sz ∧ i < es.length ∧ j + sz ≤ sz' ∧ K (s.put id (.vec ty sz' (es.set i ((es.getD i .junk).recell (setAt (es.getD i .junk).cells j (v).cells)))))
      | _ => False
def v_store (sz : Nat) (v : V) (a1 : V) (s : St) (K : St → Prop) : Prop :=
  match a1 with
  | .ptr id o => v_store_0 sz v id o (s.L id) s K
  | .eptr id i j => v_store_1 sz v id i j (s.L id) s K
  | _ => False
theorem x_store {P : Program} {wr : List Nat} {s : St} {K : St → Prop} {sz x v} : istepC P wr (.store sz x v) s K = v_store sz (s.ev v) (s.ev x) s K := by unfold istepC istep v_store v_store_0 v_store_1; rfl
theorem v_store_0_0 {s : St} {K : St → Prop} {sz v id o ty cs} : v_store_0 sz v id o (some (.box ty cs)) s K = ((v).ncells = some sz ∧ o + sz ≤ cs.length ∧ K (s.put id (.box ty (setAt cs o (v).cells)))) := by unfold v_store_0; rfl
theorem v_store_e0 {s : St} {K : St → Prop} {sz v id o} : v_store sz v (.ptr id o) s K = (v_store_0 sz v id o (s.L id) s K) := by unfold v_store; rfl
theorem v_store_1_0 {s : St} {K : St → Prop} {sz v id i j ty sz' es} : v_store_1 sz v id i j (some (.vec ty sz' es)) s K = ((v).ncells = some sz ∧ i < es.length ∧ j + sz ≤ sz' ∧ K (s.put id (.vec ty sz' (es.set i ((es.getD i .junk).recell (setAt (es.getD i .junk).cells j (v).cells)))))) := by unfold v_store_1; rfl
theorem v_store_e1 {s : St} {K : St → Prop} {sz v id i j} : v_store sz v (.eptr id i j) s K = (v_store_1 sz v id i j (s.L id) s K) := by unfold v_store; rfl
theorem x_alloc {P : Program} {wr : List Nat} {s : St} {K : St → Prop} {d ty zero} : istepC P wr (.alloc d ty zero) s K = (K ((s.add (s.nx + d) (.box ty zero)).set d (.ptr (s.nx + d) 0))) := by unfold istepC istep; rfl
theorem x_box {P : Program} {wr : List Nat} {s : St} {K : St → Prop} {d ty x} : istepC P wr (.box d ty x) s K = ((s.ev x).ncells.isSome = true ∧ K ((s.add (s.nx + d) (.box ty (s.ev x).cells)).set d (.ptr (s.nx + d) 0))) := by unfold istepC istep; rfl
theorem x_mkl {P : Program} {wr : List Nat} {s : St} {K : St → Prop} {d sz parts} : istepC P wr (.mkl d sz parts) s K = ((∀ p ∈ parts, (s.ev p).ncells = some sz) ∧ K (s.setO d (.lst sz (parts.map s.ev)))) := by unfold istepC istep; rfl
theorem x_mkv {P : Program} {wr : List Nat} {s : St} {K : St → Prop} {d ty sz parts} : istepC P wr (.mkv d ty sz parts) s K = ((∀ p ∈ parts, (s.ev p).ncells = some sz) ∧ K ((s.add (s.nx + d) (.vec ty sz (parts.map s.ev))).set d (.own (s.nx + d) sz 0 parts.length))) := by unfold istepC istep; rfl
def v_ptreq (d : Option Nat) (neg : Bool) (a1 : V) (a2 : V) (s : St) (K : St → Prop) : Prop :=
  match a1, a2 with
  | .ptr i o, .ptr j q => i = j ∧ o = q ∧ K (s.setO d (.bool !neg))
  | _, _ => False
theorem x_ptreq {P : Program} {wr : List Nat} {s : St} {K : St → Prop} {d neg x y} : istepC P wr (.ptreq d neg x y) s K = v_ptreq d neg (s.ev x) (s.ev y) s K := by unfold istepC istep v_ptreq ; rfl
theorem v_ptreq_e0 {s : St} {K : St → Prop} {d neg i o j q} : v_ptreq d neg (.ptr i o) (.ptr j q) s K = (i = j ∧ o = q ∧ K (s.setO d (.bool !neg))) := by unfold v_ptreq; rfl
def v_touns_0 (d : Option Nat) (id : Nat) (o : Nat) (bl : Option Blk) (s : St) (K : St → Prop) : Prop :=
  match bl with
      | some (.box _ cs) => o < cs.length ∧ K (s.setO d (.ptr id o))
      | _ => False
def v_touns (d : Option Nat) (a1 : V) (s : St) (K : St → Prop) : Prop :=
  match a1 with
  | .ptr id o => v_touns_0 d id o (s.L id) s K
  | _ => False
theorem x_touns {P : Program} {wr : List Nat} {s : St} {K : St → Prop} {d x} : istepC P wr (.touns d x) s K = v_touns d (s.ev x) s K := by unfold istepC istep v_touns v_touns_0; rfl
theorem v_touns_0_0 {s : St} {K : St → Prop} {d id o r0 cs} : v_touns_0 d id o (some (.box r0 cs)) s K = (o < cs.length ∧ K (s.setO d (.ptr id o))) := by unfold v_touns_0; rfl
theorem v_touns_e0 {s : St} {K : St → Prop} {d id o} : v_touns d (.ptr id o) s K = (v_touns_0 d id o (s.L id) s K) := by unfold v_touns; rfl
def v_frouns_0 (d : Option Nat) (u : Nat) (z : Nat) (id : Nat) (o : Nat) (bl : Option Blk) (s : St) (K : St → Prop) : Prop :=
  match bl with
      | some (.box ty cs) => o = 0 ∧ ty = u ∧ cs.length = z ∧ K (s.setO d (.ptr id 0))
      | _ => False
def v_frouns (d : Option Nat) (u : Nat) (z : Nat) (a1 : V) (s : St) (K : St → Prop) : Prop :=
  match a1 with
  | .ptr id o => v_frouns_0 d u z id o (s.L id) s K
  | _ => False
theorem x_frouns {P : Program} {wr : List Nat} {s : St} {K : St → Prop} {d u z x} : istepC P wr (.frouns d u z x) s K = v_frouns d u z (s.ev x) s K := by unfold istepC istep v_frouns v_frouns_0; rfl
theorem v_frouns_0_0 {s : St} {K : St → Prop} {d u z id o ty cs} : v_frouns_0 d u z id o (some (.box ty cs)) s K = (o = 0 ∧ ty = u ∧ cs.length = z ∧ K (s.setO d (.ptr id 0))) := by unfold v_frouns_0; rfl
theorem v_frouns_e0 {s : St} {K : St → Prop} {d u z id o} : v_frouns d u z (.ptr id o) s K = (v_frouns_0 d u z id o (s.L id) s K) := by unfold v_frouns; rfl
def v_sdata (d : Option Nat) (a1 : V) (s : St) (K : St → Prop) : Prop :=
  match a1 with
  | .nils => K (s.setO d .nilp)
  | .own id q0 off n => 0 < n ∧ K (s.setO d (.eptr id off 0))
  | _ => False
theorem x_sdata {P : Program} {wr : List Nat} {s : St} {K : St → Prop} {d x} : istepC P wr (.sdata d x) s K = v_sdata d (s.ev x) s K := by unfold istepC istep v_sdata ; rfl
theorem v_sdata_e0 {s : St} {K : St → Prop} {d} : v_sdata d (.nils) s K = (K (s.setO d .nilp)) := by unfold v_sdata; rfl
theorem v_sdata_e1 {s : St} {K : St → Prop} {d q0 id off n} : v_sdata d (.own id q0 off n) s K = (0 < n ∧ K (s.setO d (.eptr id off 0))) := by unfold v_sdata; rfl
def v_ustr_1 (d : Option Nat) (ty : Nat) (id : Nat) (i : Nat) (j : Nat) (m : Int) (bl : Option Blk) (s : St) (K : St → Prop) : Prop :=
  match bl with
      | some (.vec ty' sz es) => ty' = ty ∧ sz = 1 ∧ i = 0 ∧ j = 0 ∧ 0 < m ∧ m.toNat ≤ es.length ∧ ∃ bs, es.take m.toNat = bytesV bs ∧ K ((s.drop id).setO d (.str bs))
      | _ => False
def v_ustr (d : Option Nat) (ty : Nat) (a1 : V) (a2 : V) (s : St) (K : St → Prop) : Prop :=
  match a1, a2 with
  | .nilp, .int .i64 m => m = 0 ∧ K (s.setO d (.str []))
  | .eptr id i j, .int .i64 m => v_ustr_1 d ty id i j m (s.L id) s K
  | _, _ => False
theorem x_ustr {P : Program} {wr : List Nat} {s : St} {K : St → Prop} {d ty x y} : istepC P wr (.ustr d ty x y) s K = v_ustr d ty (s.ev x) (s.ev y) s K := by unfold istepC istep v_ustr v_ustr_1; rfl
theorem v_ustr_e0 {s : St} {K : St → Prop} {d ty m} : v_ustr d ty (.nilp) (.int .i64 m) s K = (m = 0 ∧ K (s.setO d (.str []))) := by unfold v_ustr; rfl
theorem v_ustr_1_0 {s : St} {K : St → Prop} {d ty id i j m ty' sz es} : v_ustr_1 d ty id i j m (some (.vec ty' sz es)) s K = (ty' = ty ∧ sz = 1 ∧ i = 0 ∧ j = 0 ∧ 0 < m ∧ m.toNat ≤ es.length ∧ ∃ bs, es.take m.toNat = bytesV bs ∧ K ((s.drop id).setO d (.str bs))) := by unfold v_ustr_1; rfl
theorem v_ustr_e1 {s : St} {K : St → Prop} {d ty id i j m} : v_ustr d ty (.eptr id i j) (.int .i64 m) s K = (v_ustr_1 d ty id i j m (s.L id) s K) := by unfold v_ustr; rfl
def v_mx (d : Option Nat) (isMax : Bool) (a1 : V) (a2 : V) (s : St) (K : St → Prop) : Prop :=
  match a1, a2 with
  | .int k a, .int k' b => k = k' ∧ K (s.setO d (.int k (mxI isMax a b)))
  | _, _ => False
theorem x_mx {P : Program} {wr : List Nat} {s : St} {K : St → Prop} {d isMax x y} : istepC P wr (.mx d isMax x y) s K = v_mx d isMax (s.ev x) (s.ev y) s K := by unfold istepC istep v_mx ; rfl
theorem v_mx_e0 {s : St} {K : St → Prop} {d isMax k a k' b} : v_mx d isMax (.int k a) (.int k' b) s K = (k = k' ∧ K (s.setO d (.int k (mxI isMax a b)))) := by unfold v_mx; rfl
def v_mx3 (d : Option Nat) (isMax : Bool) (a1 : V) (a2 : V) (a3 : V) (s : St) (K : St → Prop) : Prop :=
  match a1, a2, a3 with
  | .int k a, .int k' b, .int k'' c => k = k' ∧ k = k'' ∧ K (s.setO d (.int k (mxI isMax (mxI isMax a b) c)))
  | _, _, _ => False
theorem x_mx3 {P : Program} {wr : List Nat} {s : St} {K : St → Prop} {d isMax x y z} : istepC P wr (.mx3 d isMax x y z) s K = v_mx3 d isMax (s.ev x) (s.ev y) (s.ev z) s K := by unfold istepC istep v_mx3 ; rfl
theorem v_mx3_e0 {s : St} {K : St → Prop} {d isMax k a k' b k'' c} : v_mx3 d isMax (.int k a) (.int k' b) (.int k'' c) s K = (k = k' ∧ k = k'' ∧ K (s.setO d (.int k (mxI isMax (mxI isMax a b) c)))) := by unfold v_mx3; rfl
theorem v_pick_congr {d : Option Nat} {a a' : V} {b b' : V} {a1 a1' : V} {s s' : St} {K : St → Prop} (ga : a = a') (gb : b = b') (h0 : a1 = a1') (h9 : s = s') : v_pick d a b a1 s K = v_pick d a' b' a1' s' K := by rw [ga, gb, h0, h9]
attribute [congr] v_pick_congr
theorem v_eqA_congr {d : Option Nat} {neg : Bool} {ks : List Nat} {a1 a1' : V} {a2 a2' : V} {s s' : St} {K : St → Prop}  (h0 : a1 = a1') (h1 : a2 = a2') (h9 : s = s') : v_eqA d neg ks a1 a2 s K = v_eqA d neg ks a1' a2' s' K := by rw [h0, h1, h9]
attribute [congr] v_eqA_congr
theorem v_eqB_congr {d : Option Nat} {neg : Bool} {a1 a1' : V} {a2 a2' : V} {s s' : St} {K : St → Prop}  (h0 : a1 = a1') (h1 : a2 = a2') (h9 : s = s') : v_eqB d neg a1 a2 s K = v_eqB d neg a1' a2' s' K := by rw [h0, h1, h9]
attribute [congr] v_eqB_congr
theorem v_isnil_congr {d : Option Nat} {neg : Bool} {a1 a1' : Nat} {a2 a2' : V} {s s' : St} {K : St → Prop}  (h0 : a1 = a1') (h1 : a2 = a2') (h9 : s = s') : v_isnil d neg a1 a2 s K = v_isnil d neg a1' a2' s' K := by rw [h0, h1, h9]
attribute [congr] v_isnil_congr

theorem v_cvs_congr {d : Option Nat} {a1 a1' : V} {s s' : St} {K : St → Prop}  (h0 : a1 = a1') (h9 : s = s') : v_cvs d a1 s K = v_cvs d a1' s' K := by rw [h0, h9]
attribute [congr] v_cvs_congr
theorem v_field_congr {d : Option Nat} {off : Nat} {sz : Nat} {ag : Bool} {a1 a1' : V} {s s' : St} {K : St → Prop}  (h0 : a1 = a1') (h9 : s = s') : v_field d off sz ag a1 s K = v_field d off sz ag a1' s' K := by rw [h0, h9]
attribute [congr] v_field_congr
theorem v_ext_congr {d : Option Nat} {i : Nat} {a1 a1' : V} {s s' : St} {K : St → Prop}  (h0 : a1 = a1') (h9 : s = s') : v_ext d i a1 s K = v_ext d i a1' s' K := by rw [h0, h9]
attribute [congr] v_ext_congr
theorem v_idx_congr {d : Option Nat} {a1 a1' : V} {a2 a2' : V} {s s' : St} {K : St → Prop}  (h0 : a1 = a1') (h1 : a2 = a2') (h9 : s = s') : v_idx d a1 a2 s K = v_idx d a1' a2' s' K := by rw [h0, h1, h9]
attribute [congr] v_idx_congr
theorem v_idxA_congr {d : Option Nat} {n : Nat} {sz : Nat} {ag : Bool} {a1 a1' : V} {a2 a2' : V} {s s' : St} {K : St → Prop}  (h0 : a1 = a1') (h1 : a2 = a2') (h9 : s = s') : v_idxA d n sz ag a1 a2 s K = v_idxA d n sz ag a1' a2' s' K := by rw [h0, h1, h9]
attribute [congr] v_idxA_congr
theorem v_slcS_congr {d : Option Nat} {lo lo' : Option V} {hi hi' : Option V} {a1 a1' : V} {s s' : St} {K : St → Prop} (glo : lo = lo') (ghi : hi = hi') (h0 : a1 = a1') (h9 : s = s') : v_slcS d lo hi a1 s K = v_slcS d lo' hi' a1' s' K := by rw [glo, ghi, h0, h9]
attribute [congr] v_slcS_congr
theorem v_slc_congr {d : Option Nat} {sz : Nat} {lo lo' : Option V} {hi hi' : Option V} {a1 a1' : V} {s s' : St} {K : St → Prop} (glo : lo = lo') (ghi : hi = hi') (h0 : a1 = a1') (h9 : s = s') : v_slc d sz lo hi a1 s K = v_slc d sz lo' hi' a1' s' K := by rw [glo, ghi, h0, h9]
attribute [congr] v_slc_congr
theorem v_len_congr {d : Option Nat} {a1 a1' : Bool} {a2 a2' : V} {s s' : St} {K : St → Prop}  (h0 : a1 = a1') (h1 : a2 = a2') (h9 : s = s') : v_len d a1 a2 s K = v_len d a1' a2' s' K := by rw [h0, h1, h9]
attribute [congr] v_len_congr
theorem v_fadr_congr {d : Option Nat} {off : Nat} {a1 a1' : V} {s s' : St} {K : St → Prop}  (h0 : a1 = a1') (h9 : s = s') : v_fadr d off a1 s K = v_fadr d off a1' s' K := by rw [h0, h9]
attribute [congr] v_fadr_congr
theorem v_iadr_congr {d : Option Nat} {sz : Nat} {a1 a1' : V} {a2 a2' : V} {s s' : St} {K : St → Prop}  (h0 : a1 = a1') (h1 : a2 = a2') (h9 : s = s') : v_iadr d sz a1 a2 s K = v_iadr d sz a1' a2' s' K := by rw [h0, h1, h9]
attribute [congr] v_iadr_congr
theorem v_iadrA_congr {d : Option Nat} {n : Nat} {sz : Nat} {a1 a1' : V} {a2 a2' : V} {s s' : St} {K : St → Prop}  (h0 : a1 = a1') (h1 : a2 = a2') (h9 : s = s') : v_iadrA d n sz a1 a2 s K = v_iadrA d n sz a1' a2' s' K := by rw [h0, h1, h9]
attribute [congr] v_iadrA_congr
theorem v_nchk_congr {d : Option Nat} {a1 a1' : V} {s s' : St} {K : St → Prop}  (h0 : a1 = a1') (h9 : s = s') : v_nchk d a1 s K = v_nchk d a1' s' K := by rw [h0, h9]
attribute [congr] v_nchk_congr
theorem v_load_1_congr (d : Option Nat) (c : Bool) (sz : Nat) (ag : Bool) (id : Nat) (o : Nat) {bl bl' : Option Blk} {s s' : St} {K : St → Prop} (h1 : bl = bl') (h2 : s = s') : v_load_1 d c sz ag id o bl s K = v_load_1 d c sz ag id o bl' s' K := by rw [h1, h2]
attribute [congr] v_load_1_congr
theorem v_load_2_congr (d : Option Nat) (c : Bool) (sz : Nat) (ag : Bool) (id : Nat) (i : Nat) (j : Nat) {bl bl' : Option Blk} {s s' : St} {K : St → Prop} (h1 : bl = bl') (h2 : s = s') : v_load_2 d c sz ag id i j bl s K = v_load_2 d c sz ag id i j bl' s' K := by rw [h1, h2]
attribute [congr] v_load_2_congr
theorem v_load_congr {d : Option Nat} {c : Bool} {sz : Nat} {ag : Bool} {a1 a1' : V} {s s' : St} {K : St → Prop}  (h0 : a1 = a1') (h9 : s = s') : v_load d c sz ag a1 s K = v_load d c sz ag a1' s' K := by rw [h0, h9]
attribute [congr] v_load_congr
theorem v_store_0_congr (sz : Nat) (v : V) (id : Nat) (o : Nat) {bl bl' : Option Blk} {s s' : St} {K : St → Prop} (h1 : bl = bl') (h2 : s = s') : v_store_0 sz v id o bl s K = v_store_0 sz v id o bl' s' K := by rw [h1, h2]
attribute [congr] v_store_0_congr
theorem v_store_1_congr (sz : Nat) (v : V) (id : Nat) (i : Nat) (j : Nat) {bl bl' : Option Blk} {s s' : St} {K : St → Prop} (h1 : bl = bl') (h2 : s = s') : v_store_1 sz v id i j bl s K = v_store_1 sz v id i j bl' s' K := by rw [h1, h2]
attribute [congr] v_store_1_congr
theorem v_store_congr {sz : Nat} {v v' : V} {a1 a1' : V} {s s' : St} {K : St → Prop} (gv : v = v') (h0 : a1 = a1') (h9 : s = s') : v_store sz v a1 s K = v_store sz v' a1' s' K := by rw [gv, h0, h9]
attribute [congr] v_store_congr
theorem v_ptreq_congr {d : Option Nat} {neg : Bool} {a1 a1' : V} {a2 a2' : V} {s s' : St} {K : St → Prop}  (h0 : a1 = a1') (h1 : a2 = a2') (h9 : s = s') : v_ptreq d neg a1 a2 s K = v_ptreq d neg a1' a2' s' K := by rw [h0, h1, h9]
attribute [congr] v_ptreq_congr
theorem v_touns_0_congr (d : Option Nat) (id : Nat) (o : Nat) {bl bl' : Option Blk} {s s' : St} {K : St → Prop} (h1 : bl = bl') (h2 : s = s') : v_touns_0 d id o bl s K = v_touns_0 d id o bl' s' K := by rw [h1, h2]
attribute [congr] v_touns_0_congr
theorem v_touns_congr {d : Option Nat} {a1 a1' : V} {s s' : St} {K : St → Prop}  (h0 : a1 = a1') (h9 : s = s') : v_touns d a1 s K = v_touns d a1' s' K := by rw [h0, h9]
attribute [congr] v_touns_congr
theorem v_frouns_0_congr (d : Option Nat) (u : Nat) (z : Nat) (id : Nat) (o : Nat) {bl bl' : Option Blk} {s s' : St} {K : St → Prop} (h1 : bl = bl') (h2 : s = s') : v_frouns_0 d u z id o bl s K = v_frouns_0 d u z id o bl' s' K := by rw [h1, h2]
attribute [congr] v_frouns_0_congr
theorem v_frouns_congr {d : Option Nat} {u : Nat} {z : Nat} {a1 a1' : V} {s s' : St} {K : St → Prop}  (h0 : a1 = a1') (h9 : s = s') : v_frouns d u z a1 s K = v_frouns d u z a1' s' K := by rw [h0, h9]
attribute [congr] v_frouns_congr
theorem v_sdata_congr {d : Option Nat} {a1 a1' : V} {s s' : St} {K : St → Prop}  (h0 : a1 = a1') (h9 : s = s') : v_sdata d a1 s K = v_sdata d a1' s' K := by rw [h0, h9]
attribute [congr] v_sdata_congr
theorem v_ustr_1_congr (d : Option Nat) (ty : Nat) (id : Nat) (i : Nat) (j : Nat) (m : Int) {bl bl' : Option Blk} {s s' : St} {K : St → Prop} (h1 : bl = bl') (h2 : s = s') : v_ustr_1 d ty id i j m bl s K = v_ustr_1 d ty id i j m bl' s' K := by rw [h1, h2]
attribute [congr] v_ustr_1_congr
theorem v_ustr_congr {d : Option Nat} {ty : Nat} {a1 a1' : V} {a2 a2' : V} {s s' : St} {K : St → Prop}  (h0 : a1 = a1') (h1 : a2 = a2') (h9 : s = s') : v_ustr d ty a1 a2 s K = v_ustr d ty a1' a2' s' K := by rw [h0, h1, h9]
attribute [congr] v_ustr_congr
theorem v_mx_congr {d : Option Nat} {isMax : Bool} {a1 a1' : V} {a2 a2' : V} {s s' : St} {K : St → Prop}  (h0 : a1 = a1') (h1 : a2 = a2') (h9 : s = s') : v_mx d isMax a1 a2 s K = v_mx d isMax a1' a2' s' K := by rw [h0, h1, h9]
attribute [congr] v_mx_congr
theorem v_mx3_congr {d : Option Nat} {isMax : Bool} {a1 a1' : V} {a2 a2' : V} {a3 a3' : V} {s s' : St} {K : St → Prop}  (h0 : a1 = a1') (h1 : a2 = a2') (h2 : a3 = a3') (h9 : s = s') : v_mx3 d isMax a1 a2 a3 s K = v_mx3 d isMax a1' a2' a3' s' K := by rw [h0, h1, h2, h9]
attribute [congr] v_mx3_congr
theorem w_skip {P : Program} {wr : List Nat} {n : Nat} {s : St} {K : X → St → Prop}  : awpC P n wr (.skip) K s = (K .norm s) := by conv => lhs; unfold awpC
theorem w_bad {P : Program} {wr : List Nat} {n : Nat} {s : St} {K : X → St → Prop}  : awpC P n wr (.bad) K s = (False) := by conv => lhs; unfold awpC
theorem w_ops {P : Program} {wr : List Nat} {n : Nat} {s : St} {K : X → St → Prop} {u0 l} : awpC P n wr (.ops u0 l) K s = (grunsC P wr l s fun s => K .norm (s.past n)) := by conv => lhs; unfold awpC
theorem w_seq {P : Program} {wr : List Nat} {n : Nat} {s : St} {K : X → St → Prop} {a b} : awpC P n wr (.seq a b) K s = (awpC P n wr a (seqK (awpC P n wr b K) K) s) := by conv => lhs; unfold awpC
theorem w_block {P : Program} {wr : List Nat} {n : Nat} {s : St} {K : X → St → Prop} {id a} : awpC P n wr (.block id a) K s = (awpC P n wr a (blkK id K) s) := by conv => lhs; unfold awpC
theorem w_exit {P : Program} {wr : List Nat} {n : Nat} {s : St} {K : X → St → Prop} {id} : awpC P n wr (.exit id) K s = (K (.exit id) s) := by conv => lhs; unfold awpC
theorem w_ret {P : Program} {wr : List Nat} {n : Nat} {s : St} {K : X → St → Prop}  : awpC P n wr (.ret) K s = (K .ret s) := by conv => lhs; unfold awpC
theorem w_gh {P : Program} {wr : List Nat} {n : Nat} {s : St} {K : X → St → Prop} {g a} : awpC P n wr (.gh g a) K s = (ghstep g s (awpC P n wr a K)) := by conv => lhs; unfold awpC
theorem w_gha {P : Program} {wr : List Nat} {n : Nat} {s : St} {K : X → St → Prop} {g a} : awpC P n wr (.gha g a) K s = (awpC P n wr a (seqK (fun s => ghstep g s (K .norm)) K) s) := by conv => lhs; unfold awpC

theorem w_gruns_nil {P : Program} {wr : List Nat} {s : St} {K : St → Prop} : grunsC P wr [] s K = K s := by unfold grunsC; rfl
theorem w_gruns_cons {P : Program} {wr : List Nat} {s : St} {K : St → Prop} {x : Grp} {r : List Grp} : grunsC P wr (x :: r) s K = grunC P wr x s fun s => grunsC P wr r s K := by rw [grunsC]
theorem w_isteps_nil {P : Program} {wr : List Nat} {s : St} {K : St → Prop} : istepsC P wr [] s K = K s := by unfold istepsC; rfl
theorem w_isteps_cons {P : Program} {wr : List Nat} {s : St} {K : St → Prop} {x : I} {r : List I} : istepsC P wr (x :: r) s K = istepC P wr x s fun s => istepsC P wr r s K := by rw [istepsC]
theorem w_grun_none {P : Program} {wr : List Nat} {s : St} {K : St → Prop} {l : List I} : grunC P wr ⟨none, l⟩ s K = istepsC P wr l s K := by unfold grunC; rfl



theorem istep_congr {P : Program} {wr : List Nat} {i : I} {s s' : St} {K : St → Prop} (h : s = s') : istepC P wr i s K = istepC P wr i s' K := by rw [h]
theorem isteps_congr {P : Program} {wr : List Nat} {i : List I} {s s' : St} {K : St → Prop} (h : s = s') : istepsC P wr i s K = istepsC P wr i s' K := by rw [h]
theorem gruns_congr {P : Program} {wr : List Nat} {i : List Grp} {s s' : St} {K : St → Prop} (h : s = s') : grunsC P wr i s K = grunsC P wr i s' K := by rw [h]
theorem grun_congr {P : Program} {wr : List Nat} {i : Grp} {s s' : St} {K : St → Prop} (h : s = s') : grunC P wr i s K = grunC P wr i s' K := by rw [h]
theorem awp_congr {P : Program} {wr : List Nat} {n : Nat} {c : C} {K : X → St → Prop} {s s' : St} (h : s = s') : awpC P n wr c K s = awpC P n wr c K s' := by rw [h]
theorem ghstep_congr {g : Gh} {K : St → Prop} {s s' : St} (h : s = s') : ghstep g s K = ghstep g s' K := by rw [h]
attribute [congr] istep_congr isteps_congr gruns_congr grun_congr awp_congr ghstep_congr


/-- a term that simp does not look into -/
inductive Tg.{u} {α : Sort u} (a : α) : Type where
  | mk
/-- WHERE THE EXECUTION STOPS: an open condition -/
def condK (b : Bool) {A B : Prop} (_ : Tg A) (_ : Tg B) : Prop := (b = true → A) ∧ (b = false → B)
theorem condK_true {A B : Prop} {x : Tg A} {y : Tg B} : condK true x y = A := by simp [condK]
theorem condK_false {A B : Prop} {x : Tg A} {y : Tg B} : condK false x y = B := by simp [condK]
theorem condK_not {b : Bool} {A B : Prop} {x : Tg A} {y : Tg B} : condK (!b) x y = condK b y x := by cases b <;> simp [condK]
theorem condK_intro {b : Bool} {A B : Prop} {x : Tg A} {y : Tg B} (h1 : b = true → A) (h2 : b = false → B) : condK b x y := ⟨h1, h2⟩
theorem condK_dec {p : Prop} [Decidable p] {A B : Prop} {x : Tg A} {y : Tg B} (h1 : p → A) (h2 : ¬ p → B) : condK (decide p) x y := ⟨fun h => h1 (of_decide_eq_true h), fun h => h2 (of_decide_eq_false h)⟩
/-- a pure call -/
def callK (P : Program) (f : Nat) (args : List V) {K : V → Prop} (_ : Tg K) : Prop := ∃ r, PTr P f args r ∧ V.imms args = true ∧ r.imm = true ∧ K r
theorem callK_intro {P : Program} {f : Nat} {args : List V} {K : V → Prop} {x : Tg K} {r : V} (h : PTr P f args r) (h1 : V.imms args = true) (h2 : r.imm = true) (h3 : K r) : callK P f args x := ⟨r, h, h1, h2, h3⟩
/-- a pure call that sees owned blocks -/
def vcallK (P : Program) (f : Nat) (args : List V) {K : V → Prop} (_ : Tg K) : Prop := ∃ r, PTr P f args r ∧ V.imms args = true ∧ r.flat = true ∧ K r
theorem vcallK_intro {P : Program} {f : Nat} {args : List V} {K : V → Prop} {x : Tg K} {r : V} (h : PTr P f args r) (h1 : V.imms args = true) (h2 : r.flat = true) (h3 : K r) : vcallK P f args x := ⟨r, h, h1, h2, h3⟩
/-- a call that may turn owned blocks -/
def ecallK (P : Program) (f : Nat) (args : List V) (L : Heap) (nx : Nat) {K : V → Heap → Nat → Prop} (_ : Tg K) : Prop := ECall P f args L nx K
theorem ecallK_intro {P : Program} {f : Nat} {args : List V} {L : Heap} {nx : Nat} {post K : V → Heap → Nat → Prop} {x : Tg K} (h : ECall P f args L nx post) (h2 : ∀ r L' nx', post r L' nx' → K r L' nx') : ecallK P f args L nx x := h.mono h2
/-- a loop -/
def loopK (P : Program) (n : Nat) (wr : List Nat) {a : C} {K : X → St → Prop} (_ : Tg a) (_ : Tg K) (s : St) : Prop := ∃ J : Nat → St → Prop, (∃ m, J m s) ∧ ∀ m s, J m s → awpC P n wr a (seqK (fun s => ∃ m', m' < m ∧ J m' s) K) s
theorem loopK_intro {P : Program} {wr : List Nat} {n : Nat} {a : C} {K : X → St → Prop} {x : Tg a} {y : Tg K} {s : St} (J : Nat → St → Prop) (m : Nat) (h : J m s) (h2 : ∀ m s, J m s → awpC P n wr a (seqK (fun s => ∃ m', m' < m ∧ J m' s) K) s) : loopK P n wr x y s := ⟨J, ⟨m, h⟩, h2⟩
theorem w_loop {P : Program} {wr : List Nat} {n : Nat} {s : St} {K : X → St → Prop} {a} : awpC P n wr (.loop a) K s = loopK P n wr (Tg.mk (a := a)) (Tg.mk (a := K)) s := by (conv => lhs; unfold awpC); rfl
/-- a cut -/
def cutK (P : Program) (n : Nat) (wr : List Nat) {a b : C} {K : X → St → Prop} (_ : Tg a) (_ : Tg b) (_ : Tg K) (s : St) : Prop := ∃ M : St → Prop, awpC P n wr a (seqK M K) s ∧ ∀ s, M s → awpC P n wr b K s
theorem cutK_intro {P : Program} {wr : List Nat} {n : Nat} {a b : C} {K : X → St → Prop} {x : Tg a} {y : Tg b} {z : Tg K} {s : St} (M : St → Prop) (h : awpC P n wr a (seqK M K) s) (h2 : ∀ s, M s → awpC P n wr b K s) : cutK P n wr x y z s := ⟨M, h, h2⟩
theorem w_seqc {P : Program} {wr : List Nat} {n : Nat} {s : St} {K : X → St → Prop} {a b} : awpC P n wr (.seqc a b) K s = cutK P n wr (Tg.mk (a := a)) (Tg.mk (a := b)) (Tg.mk (a := K)) s := by (conv => lhs; unfold awpC); rfl
theorem x_call {P : Program} {wr : List Nat} {s : St} {K : St → Prop} {d f args} : istepC P wr (.call d true f args) s K = callK P f (args.map s.ev) (Tg.mk (a := fun r => K (s.setO d r))) := by unfold istepC istep callK; simp
theorem x_vcall {P : Program} {wr : List Nat} {s : St} {K : St → Prop} {d f args} : istepC P wr (.call d false f args) s K = vcallK P f (args.map fun a => view s.L 3 (s.ev a)) (Tg.mk (a := fun r => K (s.setO d r))) := by unfold istepC istep vcallK; simp
theorem x_ecall {P : Program} {wr : List Nat} {s : St} {K : St → Prop} {d n f args} : istepC P wr (.ecall d n f args) s K = ecallK P f (args.map s.ev) s.L (s.nx + n) (Tg.mk (a := fun r L' nx' => K ((⟨s.env, L', nx'⟩ : St).setO d r))) := by unfold istepC istep ecallK; rfl
def v_cond (P : Program) (n : Nat) (wr : List Nat) (a b : C) (K : X → St → Prop) (s : St) (m : Nat) : V → Prop
  | .bool t => (t = true → awpC P n wr a K (s.set m (.bool true))) ∧ (t = false → awpC P n wr b K (s.set m (.bool false)))
  | _ => False
theorem v_cond_congr {P : Program} {wr : List Nat} {n : Nat} {a b : C} {K : X → St → Prop} {s s' : St} {m : Nat} {v v' : V} (h : s = s') (h' : v = v') : v_cond P n wr a b K s m v = v_cond P n wr a b K s' m v' := by rw [h, h']
attribute [congr] v_cond_congr
theorem w_condt {P : Program} {wr : List Nat} {n : Nat} {a b : C} {K : X → St → Prop} {s : St} {m : Nat} : awpC P n wr (.cond (.t m) a b) K s = v_cond P n wr a b K s m (s.ev (.t m)) := by (conv => lhs; unfold awpC); unfold v_cond; generalize s.ev (.t m) = v; cases v <;> rfl
theorem w_condk {P : Program} {wr : List Nat} {n : Nat} {a b : C} {K : X → St → Prop} {s : St} {t : Bool} : awpC P n wr (.cond (.k (.bool t)) a b) K s = if t then awpC P n wr a K s else awpC P n wr b K s := by (conv => lhs; unfold awpC); rfl
theorem v_cond_e {P : Program} {wr : List Nat} {n : Nat} {a b : C} {K : X → St → Prop} {s : St} {m : Nat} {t : Bool} : v_cond P n wr a b K s m (.bool t) = condK t (Tg.mk (a := awpC P n wr a K (s.set m (.bool true)))) (Tg.mk (a := awpC P n wr b K (s.set m (.bool false)))) := by unfold v_cond condK; rfl
def v_grun (P : Program) (wr : List Nat) (l : List I) (t : Nat) (w : Bool) (s : St) (K : St → Prop) : V → Prop
  | .bool b => (b = w → istepsC P wr l (s.set t (.bool w)) K) ∧ (b = !w → K (skips l (s.set t (.bool !w))))
  | .tup [] => K (skips l s)
  | _ => False
theorem v_grun_congr {P : Program} {wr : List Nat} {l : List I} {t : Nat} {w : Bool} {s s' : St} {K : St → Prop} {v v' : V} (h : s = s') (h' : v = v') : v_grun P wr l t w s K v = v_grun P wr l t w s' K v' := by rw [h, h']
attribute [congr] v_grun_congr
theorem w_grun_some {P : Program} {wr : List Nat} {s : St} {K : St → Prop} {l : List I} {t : Nat} {w : Bool} : grunC P wr ⟨some (t, w), l⟩ s K = v_grun P wr l t w s K (s.env t) := by unfold grunC v_grun; rfl
theorem v_grun_t {P : Program} {wr : List Nat} {s : St} {K : St → Prop} {l : List I} {t : Nat} {b : Bool} : v_grun P wr l t true s K (.bool b) = condK b (Tg.mk (a := istepsC P wr l (s.set t (.bool true)) K)) (Tg.mk (a := K (skips l (s.set t (.bool false))))) := by unfold v_grun condK; rfl
theorem v_grun_f {P : Program} {wr : List Nat} {s : St} {K : St → Prop} {l : List I} {t : Nat} {b : Bool} : v_grun P wr l t false s K (.bool b) = condK b (Tg.mk (a := K (skips l (s.set t (.bool true))))) (Tg.mk (a := istepsC P wr l (s.set t (.bool false)) K)) := by unfold v_grun condK; exact propext And.comm
theorem v_grun_n {P : Program} {wr : List Nat} {s : St} {K : St → Prop} {l : List I} {t : Nat} {w : Bool} : v_grun P wr l t w s K (.tup []) = K (skips l s) := by unfold v_grun; rfl
theorem skips_nil {s : St} : skips [] s = s := rfl
theorem skips_cons {s : St} {i : I} {r : List I} : skips (i :: r) s = skips r (s.setO i.dst (.tup [])) := rfl
theorem v_pick_e {s : St} {K : St → Prop} {d a b t} : v_pick d a b (.bool t) s K = condK t (Tg.mk (a := K (s.setO d a))) (Tg.mk (a := K (s.setO d b))) := by unfold v_pick condK; cases t <;> simp
/-- two-place operations on values -/
def v_bin (d : Option Nat) (op : BinOp) (x y : V) (s : St) (K : St → Prop) : Prop := vbinC op x y fun v => K (s.setO d v)
def v_binW (d : Option Nat) (op : BinOp) (x y : V) (s : St) (K : St → Prop) : Prop := vbin op x y fun v => K (s.setO d v)
theorem v_bin_congr {d : Option Nat} {op : BinOp} {x x' y y' : V} {s s' : St} {K : St → Prop} (h : x = x') (h2 : y = y') (h3 : s = s') : v_bin d op x y s K = v_bin d op x' y' s' K := by rw [h, h2, h3]
theorem v_binW_congr {d : Option Nat} {op : BinOp} {x x' y y' : V} {s s' : St} {K : St → Prop} (h : x = x') (h2 : y = y') (h3 : s = s') : v_binW d op x y s K = v_binW d op x' y' s' K := by rw [h, h2, h3]
attribute [congr] v_bin_congr v_binW_congr
theorem x_bin {P : Program} {wr : List Nat} {s : St} {K : St → Prop} {d op x y} : istepC P wr (.bin d op x y) s K = bif wrD wr d then v_binW d op (s.ev x) (s.ev y) s K else v_bin d op (s.ev x) (s.ev y) s K := by simp only [istepC, istep, v_bin, v_binW]; cases wrD wr d <;> simp
theorem wrD_nil {d : Option Nat} : wrD [] d = false := by cases d <;> rfl
theorem wrD_cons {d a : Nat} {r : List Nat} : wrD (a :: r) (some d) = (decide (d = a) || wrD r (some d)) := by
  simp only [wrD, List.contains_cons]
  congr 1
theorem v_add {s : St} {K : St → Prop} {d k a b} : v_bin d .add (.int k a) (.int k b) s K = (InR k (a + b) ∧ K (s.setO d (.int k (a + b)))) := by simp [v_bin, vbinC]
theorem v_sub {s : St} {K : St → Prop} {d k a b} : v_bin d .sub (.int k a) (.int k b) s K = (InR k (a - b) ∧ K (s.setO d (.int k (a - b)))) := by simp [v_bin, vbinC]
theorem v_mul {s : St} {K : St → Prop} {d k a b} : v_bin d .mul (.int k a) (.int k b) s K = (InR k (a * b) ∧ K (s.setO d (.int k (a * b)))) := by simp [v_bin, vbinC]
theorem v_quo {s : St} {K : St → Prop} {d k a b} : v_bin d .quo (.int k a) (.int k b) s K = (b ≠ 0 ∧ InR k (a.tdiv b) ∧ K (s.setO d (.int k (a.tdiv b)))) := by simp [v_bin, vbinC]
theorem v_addW {s : St} {K : St → Prop} {d k a b} : v_binW d .add (.int k a) (.int k b) s K = K (s.setO d (.int k (k.wrap (a + b)))) := by simp [v_binW, vbin, vint]
theorem v_subW {s : St} {K : St → Prop} {d k a b} : v_binW d .sub (.int k a) (.int k b) s K = K (s.setO d (.int k (k.wrap (a - b)))) := by simp [v_binW, vbin, vint]
theorem v_mulW {s : St} {K : St → Prop} {d k a b} : v_binW d .mul (.int k a) (.int k b) s K = K (s.setO d (.int k (k.wrap (a * b)))) := by simp [v_binW, vbin, vint]
theorem v_quoW {s : St} {K : St → Prop} {d k a b} : v_binW d .quo (.int k a) (.int k b) s K = (b ≠ 0 ∧ K (s.setO d (.int k (k.wrap (a.tdiv b))))) := by simp [v_binW, vbin, vint]
theorem v_rem {s : St} {K : St → Prop} {d k a b} : v_bin d .rem (.int k a) (.int k b) s K = (b ≠ 0 ∧ K (s.setO d (.int k (a.tmod b)))) := by simp [v_bin, vbinC, vbin, vint]
theorem v_and {s : St} {K : St → Prop} {d k a b} : v_bin d .and (.int k a) (.int k b) s K = K (s.setO d (.int k (vbits .and k a b))) := by simp [v_bin, vbinC, vbin, vint]
theorem v_or {s : St} {K : St → Prop} {d k a b} : v_bin d .or (.int k a) (.int k b) s K = K (s.setO d (.int k (vbits .or k a b))) := by simp [v_bin, vbinC, vbin, vint]
theorem v_xor {s : St} {K : St → Prop} {d k a b} : v_bin d .xor (.int k a) (.int k b) s K = K (s.setO d (.int k (vbits .xor k a b))) := by simp [v_bin, vbinC, vbin, vint]
theorem v_andNot {s : St} {K : St → Prop} {d k a b} : v_bin d .andNot (.int k a) (.int k b) s K = K (s.setO d (.int k (vbits .andNot k a b))) := by simp [v_bin, vbinC, vbin, vint]
theorem v_eql {s : St} {K : St → Prop} {d k a b} : v_bin d .eql (.int k a) (.int k b) s K = K (s.setO d (.bool (decide (a = b)))) := by simp [v_bin, vbinC, vbin, vint]
theorem v_neq {s : St} {K : St → Prop} {d k a b} : v_bin d .neq (.int k a) (.int k b) s K = K (s.setO d (.bool (!decide (a = b)))) := by simp [v_bin, vbinC, vbin, vint]
theorem v_lss {s : St} {K : St → Prop} {d k a b} : v_bin d .lss (.int k a) (.int k b) s K = K (s.setO d (.bool (decide (a < b)))) := by simp [v_bin, vbinC, vbin, vint]
theorem v_leq {s : St} {K : St → Prop} {d k a b} : v_bin d .leq (.int k a) (.int k b) s K = K (s.setO d (.bool (decide (a ≤ b)))) := by simp [v_bin, vbinC, vbin, vint]
theorem v_gtr {s : St} {K : St → Prop} {d k a b} : v_bin d .gtr (.int k a) (.int k b) s K = K (s.setO d (.bool (decide (b < a)))) := by simp [v_bin, vbinC, vbin, vint]
theorem v_geq {s : St} {K : St → Prop} {d k a b} : v_bin d .geq (.int k a) (.int k b) s K = K (s.setO d (.bool (decide (b ≤ a)))) := by simp [v_bin, vbinC, vbin, vint]
theorem v_sadd {s : St} {K : St → Prop} {d a b} : v_bin d .add (.str a) (.str b) s K = (a.length + b.length < 2 ^ 63 ∧ K (s.setO d (.str (a ++ b)))) := by simp [v_bin, vbinC, vbin, vstr]
theorem v_seql {s : St} {K : St → Prop} {d a b} : v_bin d .eql (.str a) (.str b) s K = K (s.setO d (.bool (decide (a = b)))) := by simp [v_bin, vbinC, vbin, vstr]
theorem v_sneq {s : St} {K : St → Prop} {d a b} : v_bin d .neq (.str a) (.str b) s K = K (s.setO d (.bool (!decide (a = b)))) := by simp [v_bin, vbinC, vbin, vstr]
theorem v_slss {s : St} {K : St → Prop} {d a b} : v_bin d .lss (.str a) (.str b) s K = K (s.setO d (.bool (Op.bytesLess a b))) := by simp [v_bin, vbinC, vbin, vstr]
theorem v_sleq {s : St} {K : St → Prop} {d a b} : v_bin d .leq (.str a) (.str b) s K = K (s.setO d (.bool (Op.bytesLess a b || decide (a = b)))) := by simp [v_bin, vbinC, vbin, vstr]
theorem v_sgtr {s : St} {K : St → Prop} {d a b} : v_bin d .gtr (.str a) (.str b) s K = K (s.setO d (.bool (!(Op.bytesLess a b || decide (a = b))))) := by simp [v_bin, vbinC, vbin, vstr]
theorem v_sgeq {s : St} {K : St → Prop} {d a b} : v_bin d .geq (.str a) (.str b) s K = K (s.setO d (.bool (!Op.bytesLess a b))) := by simp [v_bin, vbinC, vbin, vstr]
def v_un (d : Option Nat) (op : UnOp) (x : V) (s : St) (K : St → Prop) : Prop := vunC op x fun v => K (s.setO d v)
def v_unW (d : Option Nat) (op : UnOp) (x : V) (s : St) (K : St → Prop) : Prop := vun op x fun v => K (s.setO d v)
theorem v_un_congr {d : Option Nat} {op : UnOp} {x x' : V} {s s' : St} {K : St → Prop} (h : x = x') (h3 : s = s') : v_un d op x s K = v_un d op x' s' K := by rw [h, h3]
theorem v_unW_congr {d : Option Nat} {op : UnOp} {x x' : V} {s s' : St} {K : St → Prop} (h : x = x') (h3 : s = s') : v_unW d op x s K = v_unW d op x' s' K := by rw [h, h3]
attribute [congr] v_un_congr v_unW_congr
theorem x_un {P : Program} {wr : List Nat} {s : St} {K : St → Prop} {d op x} : istepC P wr (.un d op x) s K = bif wrD wr d then v_unW d op (s.ev x) s K else v_un d op (s.ev x) s K := by simp only [istepC, istep, v_un, v_unW]; cases wrD wr d <;> simp
theorem v_not {s : St} {K : St → Prop} {d b} : v_un d .not (.bool b) s K = K (s.setO d (.bool !b)) := by simp [v_un, vunC, vun]
theorem v_neg {s : St} {K : St → Prop} {d k b} : v_un d .neg (.int k b) s K = (InR k (0 - b) ∧ K (s.setO d (.int k (0 - b)))) := by simp [v_un, vunC]
theorem v_negW {s : St} {K : St → Prop} {d k b} : v_unW d .neg (.int k b) s K = K (s.setO d (.int k (k.wrap (0 - b)))) := by simp [v_unW, vun]
def v_cvt (d : Option Nat) (k : IntKind) (x : V) (s : St) (K : St → Prop) : Prop := vcvtC k x fun v => K (s.setO d v)
def v_cvtW (d : Option Nat) (k : IntKind) (x : V) (s : St) (K : St → Prop) : Prop := match x with
  | .int _ n => K (s.setO d (.int k (k.wrap n)))
  | _ => False
theorem v_cvt_congr {d : Option Nat} {k : IntKind} {x x' : V} {s s' : St} {K : St → Prop} (h : x = x') (h3 : s = s') : v_cvt d k x s K = v_cvt d k x' s' K := by rw [h, h3]
theorem v_cvtW_congr {d : Option Nat} {k : IntKind} {x x' : V} {s s' : St} {K : St → Prop} (h : x = x') (h3 : s = s') : v_cvtW d k x s K = v_cvtW d k x' s' K := by rw [h, h3]
attribute [congr] v_cvt_congr v_cvtW_congr
theorem x_cvt {P : Program} {wr : List Nat} {s : St} {K : St → Prop} {d k x} : istepC P wr (.cvt d k x) s K = bif wrD wr d then v_cvtW d k (s.ev x) s K else v_cvt d k (s.ev x) s K := by simp only [istepC, istep, v_cvt, v_cvtW]; cases wrD wr d <;> simp <;> rfl
theorem v_cvt_e {s : St} {K : St → Prop} {d k q n} : v_cvt d k (.int q n) s K = (InR k n ∧ K (s.setO d (.int k n))) := by simp [v_cvt, vcvtC]
theorem v_cvt_w {s : St} {K : St → Prop} {d k q n} : v_cvtW d k (.int q n) s K = K (s.setO d (.int k (k.wrap n))) := by simp [v_cvtW]
/-- equality of structs, cell by cell -/
def ceqK (ks : List Nat) (a b : List V) (K : Bool → Prop) : Prop := ∃ t, cellsEq ks a b = some t ∧ K t
theorem ceqK_congr {ks : List Nat} {a a' b b' : List V} {K : Bool → Prop} (h : a = a') (h2 : b = b') : ceqK ks a b K = ceqK ks a' b' K := by rw [h, h2]
attribute [congr] ceqK_congr
theorem v_eqA_e {s : St} {K : St → Prop} {d neg ks a b} : v_eqA d neg ks (.agg a) (.agg b) s K = ceqK ks a b fun t => K (s.setO d (.bool (t != neg))) := by unfold v_eqA ceqK; rfl
theorem ceqK_nil {K : Bool → Prop} : ceqK [] [] [] K = K true := by simp [ceqK, cellsEq]
theorem ceqK_opt {k : Nat} {ks : List Nat} {x y : V} {r q : List V} {K : Bool → Prop} {c : Bool} (h : cellEq k x y = some c) : ceqK (k :: ks) (x :: r) (y :: q) K = ceqK ks r q fun t => K (c && t) := by
  simp only [ceqK, cellsEq, h]
  cases cellsEq ks r q <;> simp
theorem ceqK_int {ks : List Nat} {k : IntKind} {a b : Int} {r q : List V} {K : Bool → Prop} : ceqK (0 :: ks) (.int k a :: r) (.int k b :: q) K = ceqK ks r q fun t => K (decide (a = b) && t) := ceqK_opt (by simp [cellEq])
theorem ceqK_str {ks : List Nat} {a b : List UInt8} {r q : List V} {K : Bool → Prop} : ceqK (1 :: ks) (.str a :: r) (.str b :: q) K = ceqK ks r q fun t => K (decide (a = b) && t) := ceqK_opt (by simp [cellEq])
theorem ceqK_bool {ks : List Nat} {a b : Bool} {r q : List V} {K : Bool → Prop} : ceqK (2 :: ks) (.bool a :: r) (.bool b :: q) K = ceqK ks r q fun t => K ((a == b) && t) := ceqK_opt (by simp [cellEq])
/-- bounds of slices -/
theorem bound_none {d : Nat} {K : Nat → Prop} : bound none d K = K d := rfl
theorem bound_some {d : Nat} {K : Nat → Prop} {k i} : bound (some (.int k i)) d K = (0 ≤ i ∧ K i.toNat) := rfl
theorem bound_congr {o o' : Option V} {d d' : Nat} {K : Nat → Prop} (h : o = o') (h2 : d = d') : bound o d K = bound o' d' K := by rw [h, h2]
attribute [congr] bound_congr
theorem v_slcS_e {s : St} {K : St → Prop} {d lo hi t} : v_slcS d lo hi (.str t) s K = (bound lo 0 fun l => bound hi t.length fun h => l ≤ h ∧ h ≤ t.length ∧ K (s.setO d (.str ((t.take h).drop l)))) := by unfold v_slcS; rfl
theorem v_slc_n {s : St} {K : St → Prop} {d sz lo hi} : v_slc d sz lo hi (.nils) s K = (bound lo 0 fun l => bound hi 0 fun h => l ≤ h ∧ h ≤ 0 ∧ K (s.setO d .nils)) := by unfold v_slc; rfl
theorem v_slc_l {s : St} {K : St → Prop} {d sz lo hi es} : v_slc d sz lo hi (.lst sz es) s K = (bound lo 0 fun l => bound hi es.length fun h => l ≤ h ∧ h ≤ es.length ∧ K (s.setO d (.lst sz ((es.take h).drop l)))) := by unfold v_slc; simp
theorem v_slc_o {s : St} {K : St → Prop} {d sz lo hi id off n} : v_slc d sz lo hi (.own id sz off n) s K = (bound lo 0 fun l => bound hi n fun h => l ≤ h ∧ h ≤ n ∧ K (s.setO d (.own id sz (off + l) (h - l)))) := by unfold v_slc; simp
/-- what an append takes -/
def elO (sz : Nat) (bl : Option Blk) (off len : Nat) (K : List V → Prop) : Prop :=
  match bl with
  | some (.vec _ _ es) => off + len ≤ es.length ∧ K ((es.drop off).take len)
  | _ => False
theorem elO_congr {sz : Nat} {bl bl' : Option Blk} {off len : Nat} {K : List V → Prop} (h : bl = bl') : elO sz bl off len K = elO sz bl' off len K := by rw [h]
attribute [congr] elO_congr
theorem elO_e {sz ty sz' : Nat} {es : List V} {off len : Nat} {K : List V → Prop} : elO sz (some (.vec ty sz' es)) off len K = (off + len ≤ es.length ∧ K ((es.drop off).take len)) := rfl
theorem elemsOf_congr {sz : Nat} {L L' : Heap} {y y' : V} {K : List V → Prop} (h : L = L') (h2 : y = y') : elemsOf sz L y K = elemsOf sz L' y' K := by rw [h, h2]
attribute [congr] elemsOf_congr
theorem elemsOf_n {sz : Nat} {L : Heap} {K : List V → Prop} : elemsOf sz L .nils K = K [] := rfl
theorem elemsOf_l {sz : Nat} {L : Heap} {es : List V} {K : List V → Prop} : elemsOf sz L (.lst sz es) K = K es := by simp [elemsOf]
theorem elemsOf_s {L : Heap} {s : List UInt8} {K : List V → Prop} : elemsOf 1 L (.str s) K = K (bytesV s) := by simp [elemsOf, bytesV]
theorem elemsOf_o {sz : Nat} {L : Heap} {id off len : Nat} {K : List V → Prop} : elemsOf sz L (.own id sz off len) K = elO sz (L id) off len K := by
  unfold elemsOf elO
  simp only
  cases L id with
  | none => simp
  | some b => cases b <;> simp
/-- an append: to nothing -/
def appN (d ty sz : Nat) (ys : List V) (s : St) (K : St → Prop) : Prop := (ys = [] → K (s.set d .nils)) ∧ (ys ≠ [] → ys.length ≤ 2 ^ 32 ∧ K ((s.add (s.nx + d) (.vec ty sz ys)).set d (.own (s.nx + d) sz 0 ys.length)))
theorem appN_congr {d ty sz : Nat} {ys ys' : List V} {s s' : St} {K : St → Prop} (h : ys = ys') (h2 : s = s') : appN d ty sz ys s K = appN d ty sz ys' s' K := by rw [h, h2]
attribute [congr] appN_congr
theorem appN_nil {d ty sz : Nat} {s : St} {K : St → Prop} : appN d ty sz [] s K = K (s.set d .nils) := by simp [appN]
theorem appN_cons {d ty sz : Nat} {y : V} {ys : List V} {s : St} {K : St → Prop} : appN d ty sz (y :: ys) s K = ((y :: ys).length ≤ 2 ^ 32 ∧ K ((s.add (s.nx + d) (.vec ty sz (y :: ys))).set d (.own (s.nx + d) sz 0 (y :: ys).length))) := by simp [appN]
/-- an append: to an owned slice -/
def appO (d ty sz id off n : Nat) (bl : Option Blk) (y : V) (s : St) (K : St → Prop) : Prop :=
  match bl with
  | some (.vec ty' _ es) => ty' = ty ∧ off + n ≤ es.length ∧ elemsOf sz s.L y fun ys => n + ys.length ≤ 2 ^ 32 ∧
      K (((s.drop id).add (s.nx + d) (.vec ty sz ((es.drop off).take n ++ ys))).set d (.own (s.nx + d) sz 0 (n + ys.length)))
  | _ => False
theorem appO_congr {d ty sz id off n : Nat} {bl bl' : Option Blk} {y y' : V} {s s' : St} {K : St → Prop} (h : bl = bl') (h2 : y = y') (h3 : s = s') : appO d ty sz id off n bl y s K = appO d ty sz id off n bl' y' s' K := by rw [h, h2, h3]
attribute [congr] appO_congr
theorem appO_e {d ty sz id off n r0 : Nat} {es : List V} {y : V} {s : St} {K : St → Prop} : appO d ty sz id off n (some (.vec ty r0 es)) y s K = (off + n ≤ es.length ∧ elemsOf sz s.L y fun ys => n + ys.length ≤ 2 ^ 32 ∧
      K (((s.drop id).add (s.nx + d) (.vec ty sz ((es.drop off).take n ++ ys))).set d (.own (s.nx + d) sz 0 (n + ys.length)))) := by simp [appO]
def v_app (d ty sz : Nat) (x y : V) (s : St) (K : St → Prop) : Prop := (x = .nils ∧ elemsOf sz s.L y (fun ys => ys = []) ∧ K (s.set d .nils)) ∨ appStep d ty sz x y s K
theorem v_app_congr {d ty sz : Nat} {x x' y y' : V} {s s' : St} {K : St → Prop} (h : x = x') (h2 : y = y') (h3 : s = s') : v_app d ty sz x y s K = v_app d ty sz x' y' s' K := by rw [h, h2, h3]
attribute [congr] v_app_congr
theorem x_app {P : Program} {wr : List Nat} {s : St} {K : St → Prop} {d ty sz x y} : istepC P wr (.app d ty sz x y) s K = v_app d ty sz (s.ev x) (s.ev y) s K := by unfold istepC istep; rfl
theorem v_app_o {d ty sz id off n : Nat} {y : V} {s : St} {K : St → Prop} : v_app d ty sz (.own id sz off n) y s K = appO d ty sz id off n (s.L id) y s K := by
  unfold v_app appStep appO
  simp only [reduceCtorEq, false_and, false_or]
  cases s.L id with
  | none => rfl
  | some b => cases b <;> simp
theorem v_app_n {d ty sz : Nat} {y : V} {s : St} {K : St → Prop} (h : elemsOf sz s.L y fun ys => appN d ty sz ys s K) : v_app d ty sz .nils y s K := by
  unfold v_app appStep
  have mono : ∀ {A B : List V → Prop}, (∀ ys, A ys → B ys) → elemsOf sz s.L y A → elemsOf sz s.L y B := by
    intro A B hab h
    unfold elemsOf at *
    split at h
    · exact hab _ h
    · exact ⟨h.1, hab _ h.2⟩
    · split at h
      · exact ⟨h.1, h.2.1, hab _ h.2.2⟩
      · exact h.elim
    · exact ⟨h.1, hab _ h.2⟩
    · exact h.elim
  have ex : ∀ {A : List V → Prop}, elemsOf sz s.L y A → ∃ ys, A ys ∧ ∀ {B : List V → Prop}, B ys → elemsOf sz s.L y B := by
    intro A h
    unfold elemsOf at h
    split at h
    · exact ⟨_, h, fun hb => by simpa [elemsOf] using hb⟩
    · exact ⟨_, h.2, fun hb => by simpa [elemsOf, h.1] using hb⟩
    · rename_i hy
      split at h
      · rename_i hl; exact ⟨_, h.2.2, fun hb => by unfold elemsOf; simp only [hl]; exact ⟨h.1, h.2.1, hb⟩⟩
      · exact h.elim
    · exact ⟨_, h.2, fun hb => by unfold elemsOf; exact ⟨h.1, hb⟩⟩
    · exact h.elim
  obtain ⟨ys, h1, h2⟩ := ex h
  by_cases hy : ys = []
  · exact .inl ⟨rfl, h2 hy, h1.1 hy⟩
  · exact .inr (h2 (h1.2 hy))
/-- what a function gives back -/
theorem resP_nil {s : St} {K : List V → Prop} : resP [] s K = K [] := rfl
theorem resP_none {t : Nat} {r : List RV} {s : St} {K : List V → Prop} : resP ((t, none) :: r) s K = resP r s fun vs => K (s.env t :: vs) := rfl
def resB (sz : Nat) (ag : Bool) (o : Nat) (bl : Option Blk) (r : List RV) (s : St) (K : List V → Prop) : Prop :=
  match bl with
  | some (.box _ cs) => o + sz ≤ cs.length ∧ resP r s fun vs => K (pack ag ((cs.drop o).take sz) :: vs)
  | _ => False
theorem resB_congr {sz : Nat} {ag : Bool} {o : Nat} {bl bl' : Option Blk} {r : List RV} {s s' : St} {K : List V → Prop} (h : bl = bl') (h2 : s = s') : resB sz ag o bl r s K = resB sz ag o bl' r s' K := by rw [h, h2]
attribute [congr] resB_congr
theorem resB_e {sz : Nat} {ag : Bool} {o ty : Nat} {cs : List V} {r : List RV} {s : St} {K : List V → Prop} : resB sz ag o (some (.box ty cs)) r s K = (o + sz ≤ cs.length ∧ resP r s fun vs => K (pack ag ((cs.drop o).take sz) :: vs)) := rfl
def resV (sz : Nat) (ag : Bool) (v : V) (r : List RV) (s : St) (K : List V → Prop) : Prop :=
  match v with
  | .ptr id o => resB sz ag o (s.L id) r s K
  | _ => False
theorem resV_congr {sz : Nat} {ag : Bool} {v v' : V} {r : List RV} {s s' : St} {K : List V → Prop} (h : v = v') (h2 : s = s') : resV sz ag v r s K = resV sz ag v' r s' K := by rw [h, h2]
attribute [congr] resV_congr
theorem resV_e {sz : Nat} {ag : Bool} {id o : Nat} {r : List RV} {s : St} {K : List V → Prop} : resV sz ag (.ptr id o) r s K = resB sz ag o (s.L id) r s K := rfl
theorem resP_some {t sz : Nat} {ag : Bool} {r : List RV} {s : St} {K : List V → Prop} : resP ((t, some (sz, ag)) :: r) s K = resV sz ag (s.env t) r s K := by
  simp only [resP, resV]
  cases s.env t <;> rfl
theorem endK_norm {rs : List RV} {post : V → Heap → Nat → Prop} {s : St} : endK rs post .norm s = resP rs s fun vs => post (one vs) s.L s.nx := rfl
theorem endK_ret {rs : List RV} {post : V → Heap → Nat → Prop} {s : St} : endK rs post .ret s = resP rs s fun vs => post (one vs) s.L s.nx := rfl
theorem one_one {v : V} : one [v] = v := rfl
theorem one_nil : one [] = .tup [] := rfl
theorem one_two {a b : V} {r : List V} : one (a :: b :: r) = .tup (a :: b :: r) := rfl
theorem seqK_norm {N : St → Prop} {K : X → St → Prop} {s : St} : seqK N K .norm s = N s := rfl
theorem seqK_exit {N : St → Prop} {K : X → St → Prop} {s : St} {i : Nat} : seqK N K (.exit i) s = K (.exit i) s := rfl
theorem seqK_ret {N : St → Prop} {K : X → St → Prop} {s : St} : seqK N K .ret s = K .ret s := rfl
theorem blkK_norm {id : Nat} {K : X → St → Prop} {s : St} : blkK id K .norm s = K .norm s := rfl
theorem blkK_ret {id : Nat} {K : X → St → Prop} {s : St} : blkK id K .ret s = K .ret s := rfl
theorem blkK_exit {id : Nat} {K : X → St → Prop} {s : St} {i : Nat} : blkK id K (.exit i) s = if i = id then K .norm s else K (.exit i) s := rfl
theorem seqK_congr {N : St → Prop} {K : X → St → Prop} {x x' : X} {s s' : St} (h : x = x') (h2 : s = s') : seqK N K x s = seqK N K x' s' := by rw [h, h2]
theorem blkK_congr {id : Nat} {K : X → St → Prop} {x x' : X} {s s' : St} (h : x = x') (h2 : s = s') : blkK id K x s = blkK id K x' s' := by rw [h, h2]
theorem endK_congr {rs : List RV} {post : V → Heap → Nat → Prop} {x x' : X} {s s' : St} (h : x = x') (h2 : s = s') : endK rs post x s = endK rs post x' s' := by rw [h, h2]
attribute [congr] seqK_congr blkK_congr endK_congr
/- cells -/
theorem cells_agg {cs : List V} : (V.agg cs).cells = cs := rfl
theorem cells_int {k n} : (V.int k n).cells = [.int k n] := rfl
theorem cells_str {s} : (V.str s).cells = [.str s] := rfl
theorem cells_bool {s} : (V.bool s).cells = [.bool s] := rfl
theorem cells_nils : V.nils.cells = [.nils] := rfl
theorem cells_nilp : V.nilp.cells = [.nilp] := rfl
theorem cells_lst {z es} : (V.lst z es).cells = [.lst z es] := rfl
theorem cells_own {a b c d} : (V.own a b c d).cells = [.own a b c d] := rfl
theorem cells_ptr {a b} : (V.ptr a b).cells = [.ptr a b] := rfl
theorem ncells_agg {cs : List V} : (V.agg cs).ncells = if cs.all V.one then some cs.length else none := rfl
theorem ncells_int {k n} : (V.int k n).ncells = some 1 := rfl
theorem ncells_str {s} : (V.str s).ncells = some 1 := rfl
theorem ncells_bool {s} : (V.bool s).ncells = some 1 := rfl
theorem ncells_nils : V.nils.ncells = some 1 := rfl
theorem ncells_nilp : V.nilp.ncells = some 1 := rfl
theorem ncells_lst {z es} : (V.lst z es).ncells = some 1 := rfl
theorem ncells_own {a b c d} : (V.own a b c d).ncells = some 1 := rfl
theorem ncells_ptr {a b} : (V.ptr a b).ncells = some 1 := rfl
theorem one_int {k n} : (V.int k n).one = true := rfl
theorem one_str {s} : (V.str s).one = true := rfl
theorem one_bool {s} : (V.bool s).one = true := rfl
theorem one_nils : V.nils.one = true := rfl
theorem one_nilp : V.nilp.one = true := rfl
theorem one_lst {z es} : (V.lst z es).one = true := rfl
theorem one_own {a b c d} : (V.own a b c d).one = true := rfl
theorem one_ptr {a b} : (V.ptr a b).one = true := rfl
theorem recell_agg {cs ds : List V} : (V.agg cs).recell ds = .agg ds := rfl
theorem pack_t {cs : List V} : pack true cs = .agg cs := rfl
theorem pack_f {cs : List V} : pack false cs = cs.headD .junk := rfl
theorem ev_t {s : St} {n : Nat} : s.ev (.t n) = s.env n := rfl
theorem ev_k {s : St} {v : V} : s.ev (.k v) = v := rfl
theorem imm_int {k n} : (V.int k n).imm = true := rfl
theorem imm_str {s} : (V.str s).imm = true := rfl
theorem imm_bool {s} : (V.bool s).imm = true := rfl
theorem imm_nils : V.nils.imm = true := rfl
theorem imm_lst {z es} : (V.lst z es).imm = V.imms es := by simp [V.imm]
theorem imm_agg {es} : (V.agg es).imm = V.imms es := by simp [V.imm]
theorem imm_tup {es} : (V.tup es).imm = V.imms es := by simp [V.imm]
theorem imms_nil : V.imms [] = true := by simp [V.imms]
theorem imms_cons {x r} : V.imms (x :: r) = (x.imm && V.imms r) := by simp [V.imms]
theorem toNat_cast {n : Nat} : ((n : Nat) : Int).toNat = n := Int.toNat_natCast n
theorem cast_nonneg {n : Nat} : (0 ≤ ((n : Nat) : Int)) = True := eq_true (Int.natCast_nonneg n)
theorem lt_len_cons {α : Type} {a r : List α} {x : α} : decide (((a.length : Nat) : Int) < (((a ++ x :: r).length : Nat) : Int)) = true := by simp; omega
theorem lt_len_nil {α : Type} {a : List α} : decide (((a.length : Nat) : Int) < (((a ++ []).length : Nat) : Int)) = false := by simp
theorem lt_irr {a : Int} : decide (a < a) = false := by simp
theorem len_lt_cons {α : Type} {a r : List α} {x : α} : (a.length < (a ++ x :: r).length) = True := by simp
theorem map_bytesV (t : List UInt8) : (t.map fun b => V.int .u8 b.toNat) = bytesV t := rfl
theorem bytesV_nil : bytesV [] = [] := rfl
theorem bytesV_cons (c : UInt8) (t : List UInt8) : bytesV (c :: t) = .int .u8 c.toNat :: bytesV t := rfl
theorem bytesV_length (bs : List UInt8) : (bytesV bs).length = bs.length := by simp [bytesV]
theorem len_cast_one {α : Type} {a : List α} {x : α} : (((a ++ [x]).length : Nat) : Int) = (a.length : Int) + 1 := by simp
theorem mxI_max {a b : Int} : mxI true a b = max a b := by simp only [mxI, if_true]; omega
theorem mxI_min {a b : Int} : mxI false a b = min a b := by simp only [mxI]; simp; omega
theorem updE (f : Nat → V) (i : Nat) (v : V) (j : Nat) : upd f i v j = if j = i then v else f j := rfl
theorem updL_same (f : Nat → Option Blk) (i : Nat) (v : Option Blk) : upd f i v i = v := by simp [upd]
theorem updL_ne (f : Nat → Option Blk) (i j : Nat) (v : Option Blk) (h : j ≠ i) : upd f i v j = f j := by simp [upd, h]
theorem i64_wrap {x : Int} (h : -9223372036854775808 ≤ x ∧ x ≤ 9223372036854775807) : IntKind.wrap .i64 x = x := by
  obtain ⟨h1, h2⟩ := h
  unfold IntKind.wrap
  simp [IntKind.bits, IntKind.signed]
  omega

attribute [push_cast] x_mov x_pick x_eqA x_eqB v_eqB_e0 x_isnil v_isnil_e0 v_isnil_e1 v_isnil_e2 v_isnil_e3 v_isnil_e4 v_isnil_e5 v_isnil_e6 v_isnil_e7 v_isnil_e8 x_cvs v_cvs_e0 x_build x_field v_field_e0 x_ext v_ext_e0 x_idx v_idx_e0 x_idxA v_idxA_e0 x_slcS x_slc x_len v_len_e0 v_len_e1 v_len_e2 v_len_e3 x_fadr v_fadr_e0 v_fadr_e1 v_fadr_e2 x_iadr v_iadr_e0 v_iadr_e1 x_iadrA v_iadrA_e0 v_iadrA_e1 x_nchk v_nchk_e0 v_nchk_e1 v_nchk_e2 x_load v_load_e0 v_load_1_0 v_load_e1 v_load_2_0 v_load_e2 x_store v_store_0_0 v_store_e0 v_store_1_0 v_store_e1 x_alloc x_box x_mkl x_mkv x_ptreq v_ptreq_e0 x_touns v_touns_0_0 v_touns_e0 x_frouns v_frouns_0_0 v_frouns_e0 x_sdata v_sdata_e0 v_sdata_e1 x_ustr v_ustr_e0 v_ustr_1_0 v_ustr_e1 x_mx v_mx_e0 x_mx3 v_mx3_e0 w_skip w_bad w_ops w_seq w_block w_exit w_ret w_gh w_gha w_gruns_nil w_gruns_cons w_isteps_nil w_isteps_cons w_grun_none
attribute [push_cast] condK_true condK_false w_loop w_seqc x_call x_vcall x_ecall w_condt w_condk v_cond_e w_grun_some v_grun_t v_grun_f v_grun_n skips_nil skips_cons v_pick_e x_bin wrD_nil wrD_cons v_add v_sub v_mul v_quo v_addW v_subW v_mulW v_quoW v_rem v_and v_or v_xor v_andNot v_eql v_neq v_lss v_leq v_gtr v_geq v_sadd v_seql v_sneq v_slss v_sleq v_sgtr v_sgeq x_un v_not v_neg v_negW x_cvt v_cvt_e v_cvt_w v_eqA_e ceqK_nil ceqK_int ceqK_str ceqK_bool bound_none bound_some v_slcS_e v_slc_n v_slc_l v_slc_o elO_e elemsOf_n elemsOf_l elemsOf_s elemsOf_o appN_nil appN_cons appO_e x_app v_app_o resP_nil resP_none resB_e resV_e resP_some endK_norm endK_ret one_one one_nil one_two seqK_norm seqK_exit seqK_ret blkK_norm blkK_ret blkK_exit cells_agg cells_int cells_str cells_bool cells_nils cells_nilp cells_lst cells_own cells_ptr ncells_agg ncells_int ncells_str ncells_bool ncells_nils ncells_nilp ncells_lst ncells_own ncells_ptr one_int one_str one_bool one_nils one_nilp one_lst one_own one_ptr recell_agg pack_t pack_f ev_t ev_k imm_int imm_str imm_bool imm_nils imm_lst imm_agg imm_tup imms_nil imms_cons toNat_cast cast_nonneg lt_len_cons lt_len_nil lt_irr len_lt_cons map_bytesV bytesV_nil bytesV_cons bytesV_length mxI_max mxI_min updE updL_same updL_ne i64_wrap condK_not
attribute [push_cast] ghstep St.setO St.set St.past St.put St.add St.drop St.enter I.dst setAt List.getD_cons_zero List.getD_cons_succ List.take_succ_cons List.take_zero List.take_nil List.drop_zero List.drop_succ_cons List.drop_nil List.headD_cons List.nil_append List.cons_append List.append_nil List.map_cons List.map_nil List.length_cons List.length_nil List.all_cons List.all_nil List.forall_mem_cons List.foldl_cons List.foldl_nil Option.map_some Option.map_none Nat.zero_add Nat.add_zero if_true if_false Bool.not_true Bool.not_false Bool.and_true Bool.true_and true_and and_true true_implies false_implies Bool.true_eq_false Bool.false_eq_true or_true true_or Nat.le_refl Bool.not_not cond_true cond_false InR Bool.or_false Bool.false_or Bool.bne_true Bool.bne_false Option.isSome_some ne_eq not_false_eq_true Nat.zero_le Nat.add_assoc Nat.add_left_cancel_iff mxI_max mxI_min
theorem all_mem_nil {α : Type} {p : α → Prop} : (∀ x, x ∈ ([] : List α) → p x) = True := by simp
attribute [push_cast] all_mem_nil
end Go.Ab
