/-
  The abstract machine over this program.
-/
import Derived.Test.YtkhhjbmkahibaaaGreatDoorAmF
import Derived.Test.YtkhhjbmkahibaaaGreatDoorProg
import Derived.KernelRfl
set_option linter.unusedVariables false
set_option linter.unusedSimpArgs false
set_option linter.unusedSectionVars false
set_option linter.unnecessarySimpa false
namespace Go.Proofs.YtkhhjbmkahibaaaGreatDoor
set_option maxRecDepth 100000
open Go.Am

noncomputable def tt : T TypeInfo := T.ofList Tryz.prog.types.toList
noncomputable def ti : TypeId → Option TypeInfo := tiOf tt
noncomputable def sk (t : TypeId) : Bool := !Tryz.prog.stoodInHeld t && !Tryz.prog.eqGuardType Tryz.prog.depth t
noncomputable def ft : T (Option AFunc) := T.ofList (Tryz.prog.funcs.toList.map (compF ti sk))
def ext (f : FuncId) : Option (List Value → Option Value) :=
  bif Nat.beq f 210 then some extCount else bif Nat.beq f 212 then some extSame else bif Nat.beq f 322 then some extIndex else bif Nat.beq f 347 then some extCmp else none
noncomputable def X0 : Ctx := { G := fun _ => none, L := fun e n o u => liesAt Tryz.prog Tryz.prog.depth e (n / Tryz.prog.cellsOf e) o u 1, fs := fsOf ft, ext := ext, memo := fun _ _ _ => none, lf := 1000000 }

theorem tok : TOk Tryz.prog ti sk where
  info := fun t i h => tiOf_ok rfl t i h
  held := fun t h => by unfold sk at h; simp only [Bool.and_eq_true, Bool.not_eq_true'] at h; exact h.1
  guard := fun t h => by unfold sk at h; simp only [Bool.and_eq_true, Bool.not_eq_true'] at h; exact h.2

theorem extOk (f : FuncId) (e : List Value → Option Value) (h : X0.ext f = some e) : ExtOk Tryz.prog f e := by
  have h : ext f = some e := h
  unfold ext at h
  cases h1 : Nat.beq f 210 with
  | true =>
    rw [h1] at h; cases h
    rw [of_beqT h1]
    exact ext_count Tryz.func210 (by kernel_rfl) (by kernel_rfl) rfl rfl
  | false =>
    rw [h1] at h
    cases h2 : Nat.beq f 212 with
    | true =>
      rw [h2] at h; cases h
      rw [of_beqT h2]
      exact ext_same Tryz.func212 (by kernel_rfl) (by kernel_rfl) rfl rfl
    | false =>
      rw [h2] at h
      cases h3 : Nat.beq f 322 with
      | true =>
        rw [h3] at h; cases h
        rw [of_beqT h3]
        exact ext_index Tryz.func322 (by kernel_rfl) (by kernel_rfl) rfl rfl
      | false =>
        rw [h3] at h
        cases h4 : Nat.beq f 347 with
        | true =>
          rw [h4] at h; cases h
          rw [of_beqT h4]
          exact ext_cmp Tryz.func347 (by kernel_rfl) (by kernel_rfl) rfl rfl
        | false => rw [h4] at h; cases h

theorem ftOk (f : FuncId) (af : AFunc) (h : fsOf ft f = some af) : ∃ fn c, Tryz.prog.funcs[f]? = some fn ∧ fn.body = some c ∧ (fn.name == "runtime.NumGoroutine") = false ∧ dstOk fn.ntmps c = true ∧ af.nparams ≤ fn.ntmps ∧ compResults ti fn.results.toList = some af.results ∧ af.body = comp ti sk c :=
  fsOf_ok (show ft = T.ofList (Tryz.prog.funcs.toList.map (compF ti sk)) from rfl) f af h
theorem kz_fs (f : FuncId) (af : AFunc) (h : X0.fs f = some af) : fsOf ft f = some af := h
theorem kz_lies (e : TypeId) (n o : Nat) (u : TypeId) (h : X0.L e n o u = true) : liesAt Tryz.prog Tryz.prog.depth e (n / Tryz.prog.cellsOf e) o u 1 = true := h
theorem kz_memo (f : FuncId) (args : List Value) (σ : St) : X0.memo f args σ = none := rfl
end Go.Proofs.YtkhhjbmkahibaaaGreatDoor

