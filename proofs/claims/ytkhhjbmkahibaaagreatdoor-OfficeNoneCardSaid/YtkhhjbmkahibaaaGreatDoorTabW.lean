/-
  What insolvencylaw0.Whole answers, run by the kernel.
-/
import Derived.Test.YtkhhjbmkahibaaaGreatDoorTabB
set_option linter.unusedVariables false
set_option linter.unusedSimpArgs false
set_option linter.unusedSectionVars false
set_option linter.unnecessarySimpa false
namespace Go.Proofs.YtkhhjbmkahibaaaGreatDoor
open Go.Am
set_option maxRecDepth 100000
def rowsW : List Row := [
    ([.int .i64 0], .agg #[.bool false, .string ⟨#[]⟩, .string ⟨#[]⟩]),
    ([.int .i64 1], .agg #[.bool false, .string ⟨#[1]⟩, .string ⟨#[]⟩]),
    ([.int .i64 2], .agg #[.bool false, .string ⟨#[2]⟩, .string ⟨#[]⟩]),
    ([.int .i64 3], .agg #[.bool false, .string ⟨#[3]⟩, .string ⟨#[]⟩]),
    ([.int .i64 4], .agg #[.bool false, .string ⟨#[4]⟩, .string ⟨#[]⟩]),
    ([.int .i64 5], .agg #[.bool false, .string ⟨#[5]⟩, .string ⟨#[]⟩]),
    ([.int .i64 6], .agg #[.bool false, .string ⟨#[6]⟩, .string ⟨#[]⟩]),
    ([.int .i64 7], .agg #[.bool false, .string ⟨#[7]⟩, .string ⟨#[]⟩]),
    ([.int .i64 8], .agg #[.bool false, .string ⟨#[8]⟩, .string ⟨#[]⟩]),
    ([.int .i64 9], .agg #[.bool false, .string ⟨#[9]⟩, .string ⟨#[]⟩]),
    ([.int .i64 10], .agg #[.bool false, .string ⟨#[10]⟩, .string ⟨#[]⟩]),
    ([.int .i64 11], .agg #[.bool false, .string ⟨#[11]⟩, .string ⟨#[]⟩]),
    ([.int .i64 12], .agg #[.bool false, .string ⟨#[12]⟩, .string ⟨#[]⟩]),
    ([.int .i64 20], .agg #[.bool false, .string ⟨#[20]⟩, .string ⟨#[]⟩]),
    ([.int .i64 30], .agg #[.bool false, .string ⟨#[30]⟩, .string ⟨#[]⟩]),
    ([.int .i64 40], .agg #[.bool false, .string ⟨#[40]⟩, .string ⟨#[]⟩])]
theorem rowsW_ok : chkRows XB 40 12 rowsW = true := by kernel_rfl
end Go.Proofs.YtkhhjbmkahibaaaGreatDoor

