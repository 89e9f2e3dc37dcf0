/-
  What insolvencylaw0.Ratio answers, run by the kernel, first part.
-/
import Derived.Test.YtkhhjbmkahibaaaGreatDoorTabB
set_option linter.unusedVariables false
set_option linter.unusedSimpArgs false
set_option linter.unusedSectionVars false
set_option linter.unnecessarySimpa false
namespace Go.Proofs.YtkhhjbmkahibaaaGreatDoor
open Go.Am
set_option maxRecDepth 100000
def rowsR0 : List Row := [
    ([.int .i64 0, .int .i64 1], .agg #[.bool false, .string ⟨#[]⟩, .string ⟨#[]⟩]),
    ([.int .i64 0, .int .i64 2], .agg #[.bool false, .string ⟨#[]⟩, .string ⟨#[]⟩]),
    ([.int .i64 0, .int .i64 3], .agg #[.bool false, .string ⟨#[]⟩, .string ⟨#[]⟩]),
    ([.int .i64 0, .int .i64 4], .agg #[.bool false, .string ⟨#[]⟩, .string ⟨#[]⟩]),
    ([.int .i64 0, .int .i64 5], .agg #[.bool false, .string ⟨#[]⟩, .string ⟨#[]⟩]),
    ([.int .i64 0, .int .i64 6], .agg #[.bool false, .string ⟨#[]⟩, .string ⟨#[]⟩]),
    ([.int .i64 1, .int .i64 1], .agg #[.bool false, .string ⟨#[1]⟩, .string ⟨#[]⟩]),
    ([.int .i64 1, .int .i64 2], .agg #[.bool false, .string ⟨#[1]⟩, .string ⟨#[2]⟩]),
    ([.int .i64 1, .int .i64 3], .agg #[.bool false, .string ⟨#[1]⟩, .string ⟨#[3]⟩]),
    ([.int .i64 1, .int .i64 4], .agg #[.bool false, .string ⟨#[1]⟩, .string ⟨#[4]⟩]),
    ([.int .i64 1, .int .i64 5], .agg #[.bool false, .string ⟨#[1]⟩, .string ⟨#[5]⟩]),
    ([.int .i64 1, .int .i64 6], .agg #[.bool false, .string ⟨#[1]⟩, .string ⟨#[6]⟩]),
    ([.int .i64 2, .int .i64 1], .agg #[.bool false, .string ⟨#[2]⟩, .string ⟨#[]⟩]),
    ([.int .i64 2, .int .i64 2], .agg #[.bool false, .string ⟨#[1]⟩, .string ⟨#[]⟩]),
    ([.int .i64 2, .int .i64 3], .agg #[.bool false, .string ⟨#[2]⟩, .string ⟨#[3]⟩]),
    ([.int .i64 2, .int .i64 4], .agg #[.bool false, .string ⟨#[1]⟩, .string ⟨#[2]⟩]),
    ([.int .i64 2, .int .i64 5], .agg #[.bool false, .string ⟨#[2]⟩, .string ⟨#[5]⟩]),
    ([.int .i64 2, .int .i64 6], .agg #[.bool false, .string ⟨#[1]⟩, .string ⟨#[3]⟩]),
    ([.int .i64 3, .int .i64 1], .agg #[.bool false, .string ⟨#[3]⟩, .string ⟨#[]⟩]),
    ([.int .i64 3, .int .i64 2], .agg #[.bool false, .string ⟨#[3]⟩, .string ⟨#[2]⟩]),
    ([.int .i64 3, .int .i64 3], .agg #[.bool false, .string ⟨#[1]⟩, .string ⟨#[]⟩]),
    ([.int .i64 3, .int .i64 4], .agg #[.bool false, .string ⟨#[3]⟩, .string ⟨#[4]⟩]),
    ([.int .i64 3, .int .i64 5], .agg #[.bool false, .string ⟨#[3]⟩, .string ⟨#[5]⟩]),
    ([.int .i64 3, .int .i64 6], .agg #[.bool false, .string ⟨#[1]⟩, .string ⟨#[2]⟩]),
    ([.int .i64 4, .int .i64 1], .agg #[.bool false, .string ⟨#[4]⟩, .string ⟨#[]⟩]),
    ([.int .i64 4, .int .i64 2], .agg #[.bool false, .string ⟨#[2]⟩, .string ⟨#[]⟩]),
    ([.int .i64 4, .int .i64 3], .agg #[.bool false, .string ⟨#[4]⟩, .string ⟨#[3]⟩]),
    ([.int .i64 4, .int .i64 4], .agg #[.bool false, .string ⟨#[1]⟩, .string ⟨#[]⟩]),
    ([.int .i64 4, .int .i64 5], .agg #[.bool false, .string ⟨#[4]⟩, .string ⟨#[5]⟩]),
    ([.int .i64 4, .int .i64 6], .agg #[.bool false, .string ⟨#[2]⟩, .string ⟨#[3]⟩]),
    ([.int .i64 5, .int .i64 1], .agg #[.bool false, .string ⟨#[5]⟩, .string ⟨#[]⟩]),
    ([.int .i64 5, .int .i64 2], .agg #[.bool false, .string ⟨#[5]⟩, .string ⟨#[2]⟩]),
    ([.int .i64 5, .int .i64 3], .agg #[.bool false, .string ⟨#[5]⟩, .string ⟨#[3]⟩]),
    ([.int .i64 5, .int .i64 4], .agg #[.bool false, .string ⟨#[5]⟩, .string ⟨#[4]⟩]),
    ([.int .i64 5, .int .i64 5], .agg #[.bool false, .string ⟨#[1]⟩, .string ⟨#[]⟩]),
    ([.int .i64 5, .int .i64 6], .agg #[.bool false, .string ⟨#[5]⟩, .string ⟨#[6]⟩]),
    ([.int .i64 6, .int .i64 1], .agg #[.bool false, .string ⟨#[6]⟩, .string ⟨#[]⟩]),
    ([.int .i64 6, .int .i64 2], .agg #[.bool false, .string ⟨#[3]⟩, .string ⟨#[]⟩]),
    ([.int .i64 6, .int .i64 3], .agg #[.bool false, .string ⟨#[2]⟩, .string ⟨#[]⟩]),
    ([.int .i64 6, .int .i64 4], .agg #[.bool false, .string ⟨#[3]⟩, .string ⟨#[2]⟩]),
    ([.int .i64 6, .int .i64 5], .agg #[.bool false, .string ⟨#[6]⟩, .string ⟨#[5]⟩]),
    ([.int .i64 6, .int .i64 6], .agg #[.bool false, .string ⟨#[1]⟩, .string ⟨#[]⟩]),
    ([.int .i64 7, .int .i64 1], .agg #[.bool false, .string ⟨#[7]⟩, .string ⟨#[]⟩]),
    ([.int .i64 7, .int .i64 2], .agg #[.bool false, .string ⟨#[7]⟩, .string ⟨#[2]⟩]),
    ([.int .i64 7, .int .i64 3], .agg #[.bool false, .string ⟨#[7]⟩, .string ⟨#[3]⟩]),
    ([.int .i64 7, .int .i64 4], .agg #[.bool false, .string ⟨#[7]⟩, .string ⟨#[4]⟩])]
theorem okRowsR0 : chkRows XB 40 34 rowsR0 = true := by kernel_rfl
end Go.Proofs.YtkhhjbmkahibaaaGreatDoor

