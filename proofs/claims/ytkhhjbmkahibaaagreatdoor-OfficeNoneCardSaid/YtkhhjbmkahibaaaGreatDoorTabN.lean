/-
  What some calls of package natural answer, run by the kernel.
-/
import Derived.Test.YtkhhjbmkahibaaaGreatDoorCtx
set_option linter.unusedVariables false
set_option linter.unusedSimpArgs false
set_option linter.unusedSectionVars false
set_option linter.unnecessarySimpa false
namespace Go.Proofs.YtkhhjbmkahibaaaGreatDoor
open Go.Am
set_option maxRecDepth 100000
def tabN : Tab := [
  (178, [
    ([.string ⟨#[0, 0, 0, 0, 0, 0, 0, 100]⟩], .string ⟨#[100]⟩),
    ([.string ⟨#[0, 0, 0, 0, 0, 0, 0, 1]⟩], .string ⟨#[1]⟩),
    ([.string ⟨#[0, 0, 0, 0, 0, 0, 0, 60]⟩], .string ⟨#[60]⟩),
    ([.string ⟨#[0, 0, 0, 0, 0, 0, 23, 112]⟩], .string ⟨#[23, 112]⟩),
    ([.string ⟨#[0, 0, 0, 0]⟩], .string ⟨#[]⟩),
    ([.string ⟨#[0, 0, 0, 1]⟩], .string ⟨#[1]⟩),
    ([.string ⟨#[0, 0, 0, 60]⟩], .string ⟨#[60]⟩),
    ([.string ⟨#[0, 0, 23, 112]⟩], .string ⟨#[23, 112]⟩),
    ([.string ⟨#[100]⟩], .string ⟨#[100]⟩),
    ([.string ⟨#[1]⟩], .string ⟨#[1]⟩),
    ([.string ⟨#[23, 112]⟩], .string ⟨#[23, 112]⟩),
    ([.string ⟨#[60]⟩], .string ⟨#[60]⟩),
    ([.string ⟨#[]⟩], .string ⟨#[]⟩)]),
  (179, [
    ([.string ⟨#[1]⟩, .string ⟨#[1]⟩], .string ⟨#[1]⟩),
    ([.string ⟨#[1]⟩, .string ⟨#[60]⟩], .string ⟨#[1]⟩),
    ([.string ⟨#[60]⟩, .string ⟨#[60]⟩], .string ⟨#[60]⟩)]),
  (194, [
    ([.string ⟨#[1]⟩, .string ⟨#[1]⟩], .int .i64 0),
    ([.string ⟨#[60]⟩, .string ⟨#[60]⟩], .int .i64 0),
    ([.string ⟨#[]⟩, .string ⟨#[]⟩], .int .i64 0)]),
  (195, [
    ([.string ⟨#[1]⟩, .string ⟨#[1]⟩], .string ⟨#[1]⟩),
    ([.string ⟨#[1]⟩, .string ⟨#[60]⟩], .string ⟨#[60]⟩),
    ([.string ⟨#[60]⟩, .string ⟨#[100]⟩], .string ⟨#[23, 112]⟩),
    ([.string ⟨#[60]⟩, .string ⟨#[1]⟩], .string ⟨#[60]⟩),
    ([.string ⟨#[60]⟩, .string ⟨#[]⟩], .string ⟨#[]⟩),
    ([.string ⟨#[]⟩, .string ⟨#[1]⟩], .string ⟨#[]⟩)]),
  (231, [
    ([.string ⟨#[1]⟩, .string ⟨#[]⟩], .string ⟨#[1]⟩),
    ([.string ⟨#[60]⟩, .string ⟨#[]⟩], .string ⟨#[60]⟩),
    ([.string ⟨#[]⟩, .string ⟨#[1]⟩], .string ⟨#[1]⟩),
    ([.string ⟨#[]⟩, .string ⟨#[60]⟩], .string ⟨#[60]⟩),
    ([.string ⟨#[]⟩, .string ⟨#[]⟩], .string ⟨#[]⟩)]),
  (232, [
    ([.string ⟨#[1]⟩, .string ⟨#[]⟩], .tuple #[.string ⟨#[1]⟩, .bool true]),
    ([.string ⟨#[23, 112]⟩, .string ⟨#[23, 112]⟩], .tuple #[.string ⟨#[]⟩, .bool true]),
    ([.string ⟨#[60]⟩, .string ⟨#[60]⟩], .tuple #[.string ⟨#[]⟩, .bool true]),
    ([.string ⟨#[]⟩, .string ⟨#[1]⟩], .tuple #[.string ⟨#[]⟩, .bool false])]),
  (236, [
    ([.int .i64 (-1)], .int .i64 (-1)),
    ([.int .i64 1], .int .i64 1)]),
  (295, [
    ([.string ⟨#[1]⟩, .string ⟨#[1]⟩], .tuple #[.string ⟨#[1]⟩, .string ⟨#[]⟩, .bool true]),
    ([.string ⟨#[23, 112]⟩, .string ⟨#[1]⟩], .tuple #[.string ⟨#[23, 112]⟩, .string ⟨#[]⟩, .bool true]),
    ([.string ⟨#[60]⟩, .string ⟨#[60]⟩], .tuple #[.string ⟨#[1]⟩, .string ⟨#[]⟩, .bool true])]),
  (331, [
    ([.int .u64 100], .string ⟨#[100]⟩),
    ([.int .u64 1], .string ⟨#[1]⟩)]),
  (332, [
    ([.string ⟨#[54, 48]⟩], .tuple #[.string ⟨#[60]⟩, .int .i64 0])]),
  (355, [
    ([.string ⟨#[23, 112]⟩], .tuple #[.int .u64 6000, .bool true])])]
theorem tabN_ok : chkTab X0 40 tabN = true := by kernel_rfl
end Go.Proofs.YtkhhjbmkahibaaaGreatDoor

