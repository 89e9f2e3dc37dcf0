/-
  insolvencylaw40.awake answers true, run by the kernel.
-/
import Derived.Test.YtkhhjbmkahibaaaGreatDoorStart
import Derived.Test.YtkhhjbmkahibaaaGreatDoorTabA
import Derived.Test.YtkhhjbmkahibaaaGreatDoorTabN
set_option linter.unusedVariables false
set_option linter.unusedSimpArgs false
set_option linter.unusedSectionVars false
set_option linter.unnecessarySimpa false
namespace Go.Proofs.YtkhhjbmkahibaaaGreatDoor
open Go.Am
set_option maxRecDepth 100000
noncomputable def XA : Ctx := { X0 with G := g0, memo := memoTab (tabOf tabA) (memoTab (tabOf tabN) (fun _ _ _ => none)) }
def isTrue (r : Option (Value × St × List Nat)) : Bool := match r with
  | some (.bool b, σ, _) => b && Nat.ble 1 σ.lo
  | _ => false
theorem awake_run (ty : Nat) : isTrue (callN XA 60 11 [] (st0 ty)) = true := by kernel_rfl
end Go.Proofs.YtkhhjbmkahibaaaGreatDoor

