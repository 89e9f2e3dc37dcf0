/-
  What insolvencylaw0.Ratio answers, run by the kernel, second part.
-/
import Derived.Test.YtkhhjbmkahibaaaGreatDoorTabB
set_option linter.unusedVariables false
set_option linter.unusedSimpArgs false
set_option linter.unusedSectionVars false
set_option linter.unnecessarySimpa false
namespace Go.Proofs.YtkhhjbmkahibaaaGreatDoor
open Go.Am
set_option maxRecDepth 100000
def rowsR1 : List Row := [
    ([.int .i64 7, .int .i64 5], .agg #[.bool false, .string ⟨#[7]⟩, .string ⟨#[5]⟩]),
    ([.int .i64 7, .int .i64 6], .agg #[.bool false, .string ⟨#[7]⟩, .string ⟨#[6]⟩]),
    ([.int .i64 8, .int .i64 1], .agg #[.bool false, .string ⟨#[8]⟩, .string ⟨#[]⟩]),
    ([.int .i64 8, .int .i64 2], .agg #[.bool false, .string ⟨#[4]⟩, .string ⟨#[]⟩]),
    ([.int .i64 8, .int .i64 3], .agg #[.bool false, .string ⟨#[8]⟩, .string ⟨#[3]⟩]),
    ([.int .i64 8, .int .i64 4], .agg #[.bool false, .string ⟨#[2]⟩, .string ⟨#[]⟩]),
    ([.int .i64 8, .int .i64 5], .agg #[.bool false, .string ⟨#[8]⟩, .string ⟨#[5]⟩]),
    ([.int .i64 8, .int .i64 6], .agg #[.bool false, .string ⟨#[4]⟩, .string ⟨#[3]⟩]),
    ([.int .i64 9, .int .i64 1], .agg #[.bool false, .string ⟨#[9]⟩, .string ⟨#[]⟩]),
    ([.int .i64 9, .int .i64 2], .agg #[.bool false, .string ⟨#[9]⟩, .string ⟨#[2]⟩]),
    ([.int .i64 9, .int .i64 3], .agg #[.bool false, .string ⟨#[3]⟩, .string ⟨#[]⟩]),
    ([.int .i64 9, .int .i64 4], .agg #[.bool false, .string ⟨#[9]⟩, .string ⟨#[4]⟩]),
    ([.int .i64 9, .int .i64 5], .agg #[.bool false, .string ⟨#[9]⟩, .string ⟨#[5]⟩]),
    ([.int .i64 9, .int .i64 6], .agg #[.bool false, .string ⟨#[3]⟩, .string ⟨#[2]⟩]),
    ([.int .i64 10, .int .i64 1], .agg #[.bool false, .string ⟨#[10]⟩, .string ⟨#[]⟩]),
    ([.int .i64 10, .int .i64 2], .agg #[.bool false, .string ⟨#[5]⟩, .string ⟨#[]⟩]),
    ([.int .i64 10, .int .i64 3], .agg #[.bool false, .string ⟨#[10]⟩, .string ⟨#[3]⟩]),
    ([.int .i64 10, .int .i64 4], .agg #[.bool false, .string ⟨#[5]⟩, .string ⟨#[2]⟩]),
    ([.int .i64 10, .int .i64 5], .agg #[.bool false, .string ⟨#[2]⟩, .string ⟨#[]⟩]),
    ([.int .i64 10, .int .i64 6], .agg #[.bool false, .string ⟨#[5]⟩, .string ⟨#[3]⟩]),
    ([.int .i64 11, .int .i64 1], .agg #[.bool false, .string ⟨#[11]⟩, .string ⟨#[]⟩]),
    ([.int .i64 11, .int .i64 2], .agg #[.bool false, .string ⟨#[11]⟩, .string ⟨#[2]⟩]),
    ([.int .i64 11, .int .i64 3], .agg #[.bool false, .string ⟨#[11]⟩, .string ⟨#[3]⟩]),
    ([.int .i64 11, .int .i64 4], .agg #[.bool false, .string ⟨#[11]⟩, .string ⟨#[4]⟩]),
    ([.int .i64 11, .int .i64 5], .agg #[.bool false, .string ⟨#[11]⟩, .string ⟨#[5]⟩]),
    ([.int .i64 11, .int .i64 6], .agg #[.bool false, .string ⟨#[11]⟩, .string ⟨#[6]⟩]),
    ([.int .i64 12, .int .i64 1], .agg #[.bool false, .string ⟨#[12]⟩, .string ⟨#[]⟩]),
    ([.int .i64 12, .int .i64 2], .agg #[.bool false, .string ⟨#[6]⟩, .string ⟨#[]⟩]),
    ([.int .i64 12, .int .i64 3], .agg #[.bool false, .string ⟨#[4]⟩, .string ⟨#[]⟩]),
    ([.int .i64 12, .int .i64 4], .agg #[.bool false, .string ⟨#[3]⟩, .string ⟨#[]⟩]),
    ([.int .i64 12, .int .i64 5], .agg #[.bool false, .string ⟨#[12]⟩, .string ⟨#[5]⟩]),
    ([.int .i64 12, .int .i64 6], .agg #[.bool false, .string ⟨#[2]⟩, .string ⟨#[]⟩]),
    ([.int .i64 13, .int .i64 1], .agg #[.bool false, .string ⟨#[13]⟩, .string ⟨#[]⟩]),
    ([.int .i64 13, .int .i64 2], .agg #[.bool false, .string ⟨#[13]⟩, .string ⟨#[2]⟩]),
    ([.int .i64 13, .int .i64 3], .agg #[.bool false, .string ⟨#[13]⟩, .string ⟨#[3]⟩]),
    ([.int .i64 13, .int .i64 4], .agg #[.bool false, .string ⟨#[13]⟩, .string ⟨#[4]⟩]),
    ([.int .i64 13, .int .i64 5], .agg #[.bool false, .string ⟨#[13]⟩, .string ⟨#[5]⟩]),
    ([.int .i64 13, .int .i64 6], .agg #[.bool false, .string ⟨#[13]⟩, .string ⟨#[6]⟩]),
    ([.int .i64 14, .int .i64 1], .agg #[.bool false, .string ⟨#[14]⟩, .string ⟨#[]⟩]),
    ([.int .i64 14, .int .i64 2], .agg #[.bool false, .string ⟨#[7]⟩, .string ⟨#[]⟩]),
    ([.int .i64 14, .int .i64 3], .agg #[.bool false, .string ⟨#[14]⟩, .string ⟨#[3]⟩]),
    ([.int .i64 14, .int .i64 4], .agg #[.bool false, .string ⟨#[7]⟩, .string ⟨#[2]⟩]),
    ([.int .i64 14, .int .i64 5], .agg #[.bool false, .string ⟨#[14]⟩, .string ⟨#[5]⟩]),
    ([.int .i64 14, .int .i64 6], .agg #[.bool false, .string ⟨#[7]⟩, .string ⟨#[3]⟩]),
    ([.int .i64 15, .int .i64 1], .agg #[.bool false, .string ⟨#[15]⟩, .string ⟨#[]⟩]),
    ([.int .i64 15, .int .i64 2], .agg #[.bool false, .string ⟨#[15]⟩, .string ⟨#[2]⟩])]
theorem okRowsR1 : chkRows XB 40 34 rowsR1 = true := by kernel_rfl
end Go.Proofs.YtkhhjbmkahibaaaGreatDoor

