/-
  What insolvencylaw0.Amount answers: a number, for every argument.
-/
import Derived.Test.YtkhhjbmkahibaaaGreatDoorTabW
import Derived.Test.YtkhhjbmkahibaaaGreatDoorTabR0
import Derived.Test.YtkhhjbmkahibaaaGreatDoorTabR1
import Derived.Test.YtkhhjbmkahibaaaGreatDoorTabR2
set_option linter.unusedVariables false
set_option linter.unusedSimpArgs false
set_option linter.unusedSectionVars false
set_option linter.unnecessarySimpa false
namespace Go.Proofs.YtkhhjbmkahibaaaGreatDoor
open Go.Am
set_option maxRecDepth 100000
theorem chkRows_append {X : Ctx} {n : Nat} {f : FuncId} : ∀ {a b : List Row}, chkRows X n f a = true → chkRows X n f b = true → chkRows X n f (a ++ b) = true
  | [], _, _, h => h
  | r :: a, b, h, h' => by
    simp only [chkRows, Bool.and_eq_true] at h
    simp only [List.cons_append, chkRows, Bool.and_eq_true]
    exact ⟨h.1, chkRows_append h.2 h'⟩
def rowsR : List Row := rowsR0 ++ (rowsR1 ++ rowsR2)
theorem rowsR_ok : chkRows XB 40 34 rowsR = true := chkRows_append okRowsR0 (chkRows_append okRowsR1 okRowsR2)
/-- what insolvencylaw0.Whole and insolvencylaw0.Ratio answer -/
noncomputable def mR : FuncId → List Value → St → Option (Value × Bool) := memoOpen 34 rowsR (memoOpen 12 rowsW (fun _ _ _ => none))
noncomputable def XR : Ctx := { X0 with memo := mR }
/-- what insolvencylaw0.Amount answers -/
noncomputable def mAmt : FuncId → List Value → St → Option (Value × Bool) := memoRun XR 5 13 (fun _ _ _ => none)
noncomputable def amR (x : Int) (p : Nat) : PR (Value × St × List Nat) := callNP XR 5 13 [.int .u16 x] nothing p
end Go.Proofs.YtkhhjbmkahibaaaGreatDoor

namespace Go.Proofs.YtkhhjbmkahibaaaGreatDoor
open Go.Am
set_option maxRecDepth 100000
def g0 : GT := fun g => bif Nat.beq g 3 then some 0 else none
def pow : List Value := [.int .u64 1, .int .u64 10, .int .u64 100, .int .u64 1000, .int .u64 10000, .int .u64 100000, .int .u64 1000000, .int .u64 10000000, .int .u64 100000000, .int .u64 1000000000, .int .u64 10000000000, .int .u64 100000000000, .int .u64 1000000000000, .int .u64 10000000000000, .int .u64 100000000000000, .int .u64 1000000000000000, .int .u64 10000000000000000, .int .u64 100000000000000000, .int .u64 1000000000000000000, .int .u64 10000000000000000000]
/-- the state in which strconv's table of powers lies, and nothing else -/
def st0 (ty : Nat) : St := { heap := T.node (some (.cells pow 0 ty 0)) .nil .nil, next := 1, lo := big }
noncomputable def powAt (σ : St) : Bool := match σ.heap.get 0 with
  | some (.cells c ro _ fl) => eqL1 c pow && (Nat.beq ro 0 && Nat.beq fl 0)
  | _ => false
/-- what insolvencylaw40.awake answers -/
noncomputable def memoAwake (old : FuncId → List Value → St → Option (Value × Bool)) : FuncId → List Value → St → Option (Value × Bool) := fun f args σ =>
  bif Nat.beq f 11 then (match args with
    | [] => some (.bool true, powAt σ)
    | _ => none) else old f args σ
noncomputable def mL : FuncId → List Value → St → Option (Value × Bool) := memoAwake (memoRun XR 5 13 (memoOpen 12 rowsW (fun _ _ _ => none)))
noncomputable def XL : Ctx := { X0 with G := g0, memo := mL }
def resTrueP (r : PR (Value × St × List Nat)) : Bool := match r with
  | some ((.bool b, σ, _), _, c) => b && (Nat.ble 1 σ.lo && c)
  | _ => false
def five (x0 x1 x2 x3 x4 : Int) : List Value := [.agg #[.int .u16 x0, .int .u16 x1, .int .u16 x2, .int .u16 x3, .int .u16 x4]]
noncomputable def law (x0 x1 x2 x3 x4 : Int) (ty p : Nat) : Bool := resTrueP (callNP XL 60 3 (five x0 x1 x2 x3 x4) (st0 ty) p)
end Go.Proofs.YtkhhjbmkahibaaaGreatDoor

namespace Go.Proofs.YtkhhjbmkahibaaaGreatDoor
open Go.Am
set_option maxRecDepth 100000
theorem am1 (x : Int) : resOfP (amR x 1) = (x.tmod 5 == 0 && ((isRat (findRow [.int .i64 (IntKind.i64.wrap ((IntKind.u16.wrap (x.tdiv 5)).tmod 23)), .int .i64 (IntKind.i64.wrap (1 + IntKind.i64.wrap ((IntKind.u16.wrap (x.tdiv 115)).tmod 6)))] rowsR) && true) && true)) := by kernel_rfl
theorem am2 (x : Int) : resOfP (amR x 2) = (!(x.tmod 5 == 0) && (x.tmod 5 == 1 && ((isRat (findRow [.int .i64 (IntKind.i64.wrap (10 * IntKind.i64.wrap ((IntKind.u16.wrap (x.tdiv 5)).tmod 4)))] rowsW) && true) && true))) := by kernel_rfl
theorem am0 (x : Int) : resOfP (amR x 0) = ((!(x.tmod 5 == 0) && (!(x.tmod 5 == 1) && true)) && ((isRat (findRow [.int .i64 (IntKind.i64.wrap ((IntKind.u16.wrap (x.tdiv 5)).tmod 13))] rowsW) && true) && true)) := by kernel_rfl

theorem wrapU {y : Int} (h0 : 0 ≤ y) (h1 : y < 65536) : IntKind.u16.wrap y = y := by
  simp [IntKind.wrap, IntKind.signed, IntKind.bits]; omega
theorem wrapI {y : Int} (h0 : 0 ≤ y) (h1 : y < 65536) : IntKind.i64.wrap y = y := by
  simp [IntKind.wrap, IntKind.signed, IntKind.bits, Int.bmod]; omega
theorem tmod_range {x m : Int} (h : 0 ≤ x) (hm : 0 < m) : 0 ≤ x.tmod m ∧ x.tmod m < m := by
  rw [Int.tmod_eq_emod_of_nonneg h]
  exact ⟨Int.emod_nonneg _ (by omega), Int.emod_lt_of_pos _ hm⟩
theorem tdiv_range {x m : Int} (h : 0 ≤ x) (h1 : x < 65536) (hm : 0 < m) : 0 ≤ x.tdiv m ∧ x.tdiv m < 65536 := by
  rw [Int.tdiv_eq_ediv_of_nonneg h]
  have h2 : x / m ≤ x := Int.ediv_le_self _ h
  exact ⟨Int.ediv_nonneg h (by omega), by omega⟩

theorem ratio_all : ((List.range 23).all fun a => (List.range 6).all fun b => isRat (findRow [.int .i64 (Int.ofNat a), .int .i64 (Int.ofNat (b + 1))] rowsR)) = true := by kernel_rfl
theorem whole_all : ((List.range 13).all fun a => isRat (findRow [.int .i64 (Int.ofNat a)] rowsW)) = true := by kernel_rfl
theorem tens_all : ((List.range 4).all fun a => isRat (findRow [.int .i64 (Int.ofNat (10 * a))] rowsW)) = true := by kernel_rfl

/-- insolvencylaw0.Amount answers a number -/
theorem amt {x : Int} (h0 : 0 ≤ x) (h1 : x < 65536) : isRat (resOf (callN XR 5 13 [.int .u16 x] nothing)) = true := by
  obtain ⟨a0, a1⟩ := tdiv_range h0 h1 (m := 5) (by omega)
  by_cases e0 : x.tmod 5 = 0
  · refine isRat_of_path (p := 1) ((am1 x).trans ?_)
    obtain ⟨b0, b1⟩ := tdiv_range h0 h1 (m := 115) (by omega)
    obtain ⟨c0, c1⟩ := tmod_range a0 (m := 23) (by omega)
    obtain ⟨d0, d1⟩ := tmod_range b0 (m := 6) (by omega)
    rw [wrapU a0 a1, wrapU b0 b1, wrapI (y := (x.tdiv 115).tmod 6) d0 (by omega), wrapI c0 (by omega), wrapI (by omega) (by omega)]
    have := List.all_eq_true.1 (List.all_eq_true.1 ratio_all ((x.tdiv 5).tmod 23).toNat (List.mem_range.2 (by omega))) ((x.tdiv 115).tmod 6).toNat (List.mem_range.2 (by omega))
    have q1 : Int.ofNat ((x.tdiv 5).tmod 23).toNat = (x.tdiv 5).tmod 23 := by simp; omega
    have q2 : Int.ofNat (((x.tdiv 115).tmod 6).toNat + 1) = 1 + (x.tdiv 115).tmod 6 := by simp; omega
    rw [q1, q2] at this
    rw [this, e0]; rfl
  · have f0 : (x.tmod 5 == 0) = false := by simpa using e0
    by_cases e1 : x.tmod 5 = 1
    · refine isRat_of_path (p := 2) ((am2 x).trans ?_)
      obtain ⟨c0, c1⟩ := tmod_range a0 (m := 4) (by omega)
      rw [wrapU a0 a1, wrapI (y := (x.tdiv 5).tmod 4) c0 (by omega), wrapI (by omega) (by omega)]
      have := List.all_eq_true.1 tens_all ((x.tdiv 5).tmod 4).toNat (List.mem_range.2 (by omega))
      have q1 : Int.ofNat (10 * ((x.tdiv 5).tmod 4).toNat) = 10 * (x.tdiv 5).tmod 4 := by simp; omega
      rw [q1] at this
      rw [this, f0, e1]; rfl
    · have f1 : (x.tmod 5 == 1) = false := by simpa using e1
      refine isRat_of_path (p := 0) ((am0 x).trans ?_)
      obtain ⟨c0, c1⟩ := tmod_range a0 (m := 13) (by omega)
      rw [wrapU a0 a1, wrapI c0 (by omega)]
      have := List.all_eq_true.1 whole_all ((x.tdiv 5).tmod 13).toNat (List.mem_range.2 (by omega))
      have q1 : Int.ofNat ((x.tdiv 5).tmod 13).toNat = (x.tdiv 5).tmod 13 := by simp; omega
      rw [q1] at this
      rw [this, f0, f1]; rfl
end Go.Proofs.YtkhhjbmkahibaaaGreatDoor

namespace Go.Proofs.YtkhhjbmkahibaaaGreatDoor
open Go.Am
set_option maxRecDepth 100000
def i64 (x : Int) : Int := IntKind.i64.wrap x
def u16 (x : Int) : Int := IntKind.u16.wrap x
noncomputable def amtOk (x : Int) : Bool := isRat (resOf (callN XR 5 13 [.int .u16 x] nothing))
theorem amtOk_x {x : Int} (h0 : 0 ≤ x) (h1 : x < 65536) : amtOk x = true := amt h0 h1
theorem amtOk_wrap (x : Int) : amtOk (u16 x) = true := by
  refine amt ?_ ?_ <;> (simp [u16, IntKind.wrap, IntKind.signed, IntKind.bits]; omega)
end Go.Proofs.YtkhhjbmkahibaaaGreatDoor

