/-
  What insolvencylaw0.Ratio answers, run by the kernel, third part.
-/
import Derived.Test.YtkhhjbmkahibaaaGreatDoorTabB
set_option linter.unusedVariables false
set_option linter.unusedSimpArgs false
set_option linter.unusedSectionVars false
set_option linter.unnecessarySimpa false
namespace Go.Proofs.YtkhhjbmkahibaaaGreatDoor
open Go.Am
set_option maxRecDepth 100000
def rowsR2 : List Row := [
    ([.int .i64 15, .int .i64 3], .agg #[.bool false, .string ⟨#[5]⟩, .string ⟨#[]⟩]),
    ([.int .i64 15, .int .i64 4], .agg #[.bool false, .string ⟨#[15]⟩, .string ⟨#[4]⟩]),
    ([.int .i64 15, .int .i64 5], .agg #[.bool false, .string ⟨#[3]⟩, .string ⟨#[]⟩]),
    ([.int .i64 15, .int .i64 6], .agg #[.bool false, .string ⟨#[5]⟩, .string ⟨#[2]⟩]),
    ([.int .i64 16, .int .i64 1], .agg #[.bool false, .string ⟨#[16]⟩, .string ⟨#[]⟩]),
    ([.int .i64 16, .int .i64 2], .agg #[.bool false, .string ⟨#[8]⟩, .string ⟨#[]⟩]),
    ([.int .i64 16, .int .i64 3], .agg #[.bool false, .string ⟨#[16]⟩, .string ⟨#[3]⟩]),
    ([.int .i64 16, .int .i64 4], .agg #[.bool false, .string ⟨#[4]⟩, .string ⟨#[]⟩]),
    ([.int .i64 16, .int .i64 5], .agg #[.bool false, .string ⟨#[16]⟩, .string ⟨#[5]⟩]),
    ([.int .i64 16, .int .i64 6], .agg #[.bool false, .string ⟨#[8]⟩, .string ⟨#[3]⟩]),
    ([.int .i64 17, .int .i64 1], .agg #[.bool false, .string ⟨#[17]⟩, .string ⟨#[]⟩]),
    ([.int .i64 17, .int .i64 2], .agg #[.bool false, .string ⟨#[17]⟩, .string ⟨#[2]⟩]),
    ([.int .i64 17, .int .i64 3], .agg #[.bool false, .string ⟨#[17]⟩, .string ⟨#[3]⟩]),
    ([.int .i64 17, .int .i64 4], .agg #[.bool false, .string ⟨#[17]⟩, .string ⟨#[4]⟩]),
    ([.int .i64 17, .int .i64 5], .agg #[.bool false, .string ⟨#[17]⟩, .string ⟨#[5]⟩]),
    ([.int .i64 17, .int .i64 6], .agg #[.bool false, .string ⟨#[17]⟩, .string ⟨#[6]⟩]),
    ([.int .i64 18, .int .i64 1], .agg #[.bool false, .string ⟨#[18]⟩, .string ⟨#[]⟩]),
    ([.int .i64 18, .int .i64 2], .agg #[.bool false, .string ⟨#[9]⟩, .string ⟨#[]⟩]),
    ([.int .i64 18, .int .i64 3], .agg #[.bool false, .string ⟨#[6]⟩, .string ⟨#[]⟩]),
    ([.int .i64 18, .int .i64 4], .agg #[.bool false, .string ⟨#[9]⟩, .string ⟨#[2]⟩]),
    ([.int .i64 18, .int .i64 5], .agg #[.bool false, .string ⟨#[18]⟩, .string ⟨#[5]⟩]),
    ([.int .i64 18, .int .i64 6], .agg #[.bool false, .string ⟨#[3]⟩, .string ⟨#[]⟩]),
    ([.int .i64 19, .int .i64 1], .agg #[.bool false, .string ⟨#[19]⟩, .string ⟨#[]⟩]),
    ([.int .i64 19, .int .i64 2], .agg #[.bool false, .string ⟨#[19]⟩, .string ⟨#[2]⟩]),
    ([.int .i64 19, .int .i64 3], .agg #[.bool false, .string ⟨#[19]⟩, .string ⟨#[3]⟩]),
    ([.int .i64 19, .int .i64 4], .agg #[.bool false, .string ⟨#[19]⟩, .string ⟨#[4]⟩]),
    ([.int .i64 19, .int .i64 5], .agg #[.bool false, .string ⟨#[19]⟩, .string ⟨#[5]⟩]),
    ([.int .i64 19, .int .i64 6], .agg #[.bool false, .string ⟨#[19]⟩, .string ⟨#[6]⟩]),
    ([.int .i64 20, .int .i64 1], .agg #[.bool false, .string ⟨#[20]⟩, .string ⟨#[]⟩]),
    ([.int .i64 20, .int .i64 2], .agg #[.bool false, .string ⟨#[10]⟩, .string ⟨#[]⟩]),
    ([.int .i64 20, .int .i64 3], .agg #[.bool false, .string ⟨#[20]⟩, .string ⟨#[3]⟩]),
    ([.int .i64 20, .int .i64 4], .agg #[.bool false, .string ⟨#[5]⟩, .string ⟨#[]⟩]),
    ([.int .i64 20, .int .i64 5], .agg #[.bool false, .string ⟨#[4]⟩, .string ⟨#[]⟩]),
    ([.int .i64 20, .int .i64 6], .agg #[.bool false, .string ⟨#[10]⟩, .string ⟨#[3]⟩]),
    ([.int .i64 21, .int .i64 1], .agg #[.bool false, .string ⟨#[21]⟩, .string ⟨#[]⟩]),
    ([.int .i64 21, .int .i64 2], .agg #[.bool false, .string ⟨#[21]⟩, .string ⟨#[2]⟩]),
    ([.int .i64 21, .int .i64 3], .agg #[.bool false, .string ⟨#[7]⟩, .string ⟨#[]⟩]),
    ([.int .i64 21, .int .i64 4], .agg #[.bool false, .string ⟨#[21]⟩, .string ⟨#[4]⟩]),
    ([.int .i64 21, .int .i64 5], .agg #[.bool false, .string ⟨#[21]⟩, .string ⟨#[5]⟩]),
    ([.int .i64 21, .int .i64 6], .agg #[.bool false, .string ⟨#[7]⟩, .string ⟨#[2]⟩]),
    ([.int .i64 22, .int .i64 1], .agg #[.bool false, .string ⟨#[22]⟩, .string ⟨#[]⟩]),
    ([.int .i64 22, .int .i64 2], .agg #[.bool false, .string ⟨#[11]⟩, .string ⟨#[]⟩]),
    ([.int .i64 22, .int .i64 3], .agg #[.bool false, .string ⟨#[22]⟩, .string ⟨#[3]⟩]),
    ([.int .i64 22, .int .i64 4], .agg #[.bool false, .string ⟨#[11]⟩, .string ⟨#[2]⟩]),
    ([.int .i64 22, .int .i64 5], .agg #[.bool false, .string ⟨#[22]⟩, .string ⟨#[5]⟩]),
    ([.int .i64 22, .int .i64 6], .agg #[.bool false, .string ⟨#[11]⟩, .string ⟨#[3]⟩])]
theorem okRowsR2 : chkRows XB 40 34 rowsR2 = true := by kernel_rfl
end Go.Proofs.YtkhhjbmkahibaaaGreatDoor

