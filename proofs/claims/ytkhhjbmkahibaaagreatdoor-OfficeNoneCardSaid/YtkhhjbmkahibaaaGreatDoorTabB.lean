/-
  What some calls of the reference numbers answer, run by the kernel.
-/
import Derived.Test.YtkhhjbmkahibaaaGreatDoorCtx
set_option linter.unusedVariables false
set_option linter.unusedSimpArgs false
set_option linter.unusedSectionVars false
set_option linter.unnecessarySimpa false
namespace Go.Proofs.YtkhhjbmkahibaaaGreatDoor
open Go.Am
set_option maxRecDepth 100000
def tabB : Tab := [
  (67, [
    ([.int .u64 0], .string ⟨#[]⟩),
    ([.int .u64 1], .string ⟨#[1]⟩),
    ([.int .u64 2], .string ⟨#[2]⟩),
    ([.int .u64 3], .string ⟨#[3]⟩),
    ([.int .u64 4], .string ⟨#[4]⟩),
    ([.int .u64 5], .string ⟨#[5]⟩),
    ([.int .u64 6], .string ⟨#[6]⟩),
    ([.int .u64 7], .string ⟨#[7]⟩),
    ([.int .u64 8], .string ⟨#[8]⟩),
    ([.int .u64 9], .string ⟨#[9]⟩),
    ([.int .u64 10], .string ⟨#[10]⟩),
    ([.int .u64 11], .string ⟨#[11]⟩),
    ([.int .u64 12], .string ⟨#[12]⟩),
    ([.int .u64 13], .string ⟨#[13]⟩),
    ([.int .u64 14], .string ⟨#[14]⟩),
    ([.int .u64 15], .string ⟨#[15]⟩),
    ([.int .u64 16], .string ⟨#[16]⟩),
    ([.int .u64 17], .string ⟨#[17]⟩),
    ([.int .u64 18], .string ⟨#[18]⟩),
    ([.int .u64 19], .string ⟨#[19]⟩),
    ([.int .u64 20], .string ⟨#[20]⟩),
    ([.int .u64 21], .string ⟨#[21]⟩),
    ([.int .u64 22], .string ⟨#[22]⟩)]),
  (175, [
    ([.string ⟨#[]⟩], .string ⟨#[]⟩),
    ([.string ⟨#[0, 0, 0, 1]⟩], .string ⟨#[1]⟩),
    ([.string ⟨#[1]⟩], .string ⟨#[1]⟩),
    ([.string ⟨#[0, 0, 0, 2]⟩], .string ⟨#[2]⟩),
    ([.string ⟨#[2]⟩], .string ⟨#[2]⟩),
    ([.string ⟨#[0, 0, 0, 3]⟩], .string ⟨#[3]⟩),
    ([.string ⟨#[3]⟩], .string ⟨#[3]⟩),
    ([.string ⟨#[0, 0, 0, 4]⟩], .string ⟨#[4]⟩),
    ([.string ⟨#[4]⟩], .string ⟨#[4]⟩),
    ([.string ⟨#[0, 0, 0, 5]⟩], .string ⟨#[5]⟩),
    ([.string ⟨#[5]⟩], .string ⟨#[5]⟩),
    ([.string ⟨#[0, 0, 0, 6]⟩], .string ⟨#[6]⟩),
    ([.string ⟨#[6]⟩], .string ⟨#[6]⟩),
    ([.string ⟨#[0, 0, 0, 7]⟩], .string ⟨#[7]⟩),
    ([.string ⟨#[7]⟩], .string ⟨#[7]⟩),
    ([.string ⟨#[0, 0, 0, 8]⟩], .string ⟨#[8]⟩),
    ([.string ⟨#[8]⟩], .string ⟨#[8]⟩),
    ([.string ⟨#[0, 0, 0, 9]⟩], .string ⟨#[9]⟩),
    ([.string ⟨#[9]⟩], .string ⟨#[9]⟩),
    ([.string ⟨#[0, 0, 0, 10]⟩], .string ⟨#[10]⟩),
    ([.string ⟨#[10]⟩], .string ⟨#[10]⟩),
    ([.string ⟨#[0, 0, 0, 11]⟩], .string ⟨#[11]⟩),
    ([.string ⟨#[11]⟩], .string ⟨#[11]⟩),
    ([.string ⟨#[0, 0, 0, 12]⟩], .string ⟨#[12]⟩),
    ([.string ⟨#[12]⟩], .string ⟨#[12]⟩),
    ([.string ⟨#[0, 0, 0, 13]⟩], .string ⟨#[13]⟩),
    ([.string ⟨#[13]⟩], .string ⟨#[13]⟩),
    ([.string ⟨#[0, 0, 0, 14]⟩], .string ⟨#[14]⟩),
    ([.string ⟨#[14]⟩], .string ⟨#[14]⟩),
    ([.string ⟨#[0, 0, 0, 15]⟩], .string ⟨#[15]⟩),
    ([.string ⟨#[15]⟩], .string ⟨#[15]⟩),
    ([.string ⟨#[0, 0, 0, 16]⟩], .string ⟨#[16]⟩),
    ([.string ⟨#[16]⟩], .string ⟨#[16]⟩),
    ([.string ⟨#[0, 0, 0, 17]⟩], .string ⟨#[17]⟩),
    ([.string ⟨#[17]⟩], .string ⟨#[17]⟩),
    ([.string ⟨#[0, 0, 0, 18]⟩], .string ⟨#[18]⟩),
    ([.string ⟨#[18]⟩], .string ⟨#[18]⟩),
    ([.string ⟨#[0, 0, 0, 19]⟩], .string ⟨#[19]⟩),
    ([.string ⟨#[19]⟩], .string ⟨#[19]⟩),
    ([.string ⟨#[0, 0, 0, 20]⟩], .string ⟨#[20]⟩),
    ([.string ⟨#[20]⟩], .string ⟨#[20]⟩),
    ([.string ⟨#[0, 0, 0, 21]⟩], .string ⟨#[21]⟩),
    ([.string ⟨#[21]⟩], .string ⟨#[21]⟩),
    ([.string ⟨#[0, 0, 0, 22]⟩], .string ⟨#[22]⟩),
    ([.string ⟨#[22]⟩], .string ⟨#[22]⟩)])]
theorem tabB_ok : chkTab X0 40 tabB = true := by kernel_rfl
noncomputable def mB : FuncId → List Value → St → Option (Value × Bool) := memoTab (tabOf tabB) (fun _ _ _ => none)
noncomputable def XB : Ctx := { X0 with memo := mB }
end Go.Proofs.YtkhhjbmkahibaaaGreatDoor

