/-
  What some calls of package rational answer, run by the kernel.
-/
import Derived.Test.YtkhhjbmkahibaaaGreatDoorCtx
set_option linter.unusedVariables false
set_option linter.unusedSimpArgs false
set_option linter.unusedSectionVars false
set_option linter.unnecessarySimpa false
namespace Go.Proofs.YtkhhjbmkahibaaaGreatDoor
open Go.Am
set_option maxRecDepth 100000
def tabA0 : Tab := [
  (215, [
    ([.string ⟨#[54, 48]⟩], .tuple #[.agg #[.bool false, .string ⟨#[60]⟩, .string ⟨#[]⟩], .int .i64 0]),
    ([.string ⟨#[48]⟩], .tuple #[.agg #[.bool false, .string ⟨#[]⟩, .string ⟨#[]⟩], .int .i64 0])]),
  (230, [
    ([.bool false, .string ⟨#[60]⟩, .string ⟨#[1]⟩], .agg #[.bool false, .string ⟨#[60]⟩, .string ⟨#[]⟩]),
    ([.bool false, .string ⟨#[]⟩, .string ⟨#[1]⟩], .agg #[.bool false, .string ⟨#[]⟩, .string ⟨#[]⟩]),
    ([.bool false, .string ⟨#[1]⟩, .string ⟨#[1]⟩], .agg #[.bool false, .string ⟨#[1]⟩, .string ⟨#[]⟩]),
    ([.bool false, .string ⟨#[]⟩, .string ⟨#[60]⟩], .agg #[.bool false, .string ⟨#[]⟩, .string ⟨#[]⟩]),
    ([.bool false, .string ⟨#[1]⟩, .string ⟨#[60]⟩], .agg #[.bool false, .string ⟨#[1]⟩, .string ⟨#[60]⟩]),
    ([.bool false, .string ⟨#[60]⟩, .string ⟨#[60]⟩], .agg #[.bool false, .string ⟨#[1]⟩, .string ⟨#[]⟩]),
    ([.bool true, .string ⟨#[1]⟩, .string ⟨#[1]⟩], .agg #[.bool true, .string ⟨#[1]⟩, .string ⟨#[]⟩]),
    ([.bool false, .string ⟨#[100]⟩, .string ⟨#[1]⟩], .agg #[.bool false, .string ⟨#[100]⟩, .string ⟨#[]⟩]),
    ([.bool false, .string ⟨#[23, 112]⟩, .string ⟨#[1]⟩], .agg #[.bool false, .string ⟨#[23, 112]⟩, .string ⟨#[]⟩])]),
  (273, [
    ([.string ⟨#[54, 48]⟩], .bool true),
    ([.string ⟨#[48]⟩], .bool true)]),
  (316, [
    ([.agg #[.bool false, .string ⟨#[60]⟩, .string ⟨#[]⟩], .agg #[.bool false, .string ⟨#[]⟩, .string ⟨#[]⟩]], .agg #[.bool false, .string ⟨#[]⟩, .string ⟨#[]⟩]),
    ([.agg #[.bool false, .string ⟨#[60]⟩, .string ⟨#[]⟩], .agg #[.bool false, .string ⟨#[1]⟩, .string ⟨#[60]⟩]], .agg #[.bool false, .string ⟨#[1]⟩, .string ⟨#[]⟩]),
    ([.agg #[.bool false, .string ⟨#[1]⟩, .string ⟨#[]⟩], .agg #[.bool false, .string ⟨#[60]⟩, .string ⟨#[]⟩]], .agg #[.bool false, .string ⟨#[60]⟩, .string ⟨#[]⟩]),
    ([.agg #[.bool false, .string ⟨#[60]⟩, .string ⟨#[]⟩], .agg #[.bool false, .string ⟨#[100]⟩, .string ⟨#[]⟩]], .agg #[.bool false, .string ⟨#[23, 112]⟩, .string ⟨#[]⟩])]),
  (318, [
    ([.agg #[.bool false, .string ⟨#[23, 112]⟩, .string ⟨#[]⟩]], .agg #[.bool false, .string ⟨#[23, 112]⟩, .string ⟨#[]⟩])])]
theorem okTabA0 : chkTab X0 40 tabA0 = true := by kernel_rfl
def tabA1 : Tab := [
  (122, [
    ([.agg #[.bool false, .string ⟨#[60]⟩, .string ⟨#[]⟩]], .bool true),
    ([.agg #[.bool false, .string ⟨#[]⟩, .string ⟨#[]⟩]], .bool true),
    ([.agg #[.bool false, .string ⟨#[1]⟩, .string ⟨#[]⟩]], .bool true),
    ([.agg #[.bool false, .string ⟨#[1]⟩, .string ⟨#[60]⟩]], .bool true),
    ([.agg #[.bool true, .string ⟨#[1]⟩, .string ⟨#[]⟩]], .bool true),
    ([.agg #[.bool true, .string ⟨#[60]⟩, .string ⟨#[]⟩]], .bool true),
    ([.agg #[.bool false, .string ⟨#[100]⟩, .string ⟨#[]⟩]], .bool true),
    ([.agg #[.bool false, .string ⟨#[23, 112]⟩, .string ⟨#[]⟩]], .bool true)]),
  (137, [
    ([.agg #[.bool false, .string ⟨#[60]⟩, .string ⟨#[]⟩], .agg #[.bool false, .string ⟨#[]⟩, .string ⟨#[]⟩]], .agg #[.bool false, .string ⟨#[60]⟩, .string ⟨#[]⟩]),
    ([.agg #[.bool false, .string ⟨#[]⟩, .string ⟨#[]⟩], .agg #[.bool false, .string ⟨#[]⟩, .string ⟨#[]⟩]], .agg #[.bool false, .string ⟨#[]⟩, .string ⟨#[]⟩]),
    ([.agg #[.bool false, .string ⟨#[]⟩, .string ⟨#[]⟩], .agg #[.bool false, .string ⟨#[60]⟩, .string ⟨#[]⟩]], .agg #[.bool false, .string ⟨#[60]⟩, .string ⟨#[]⟩]),
    ([.agg #[.bool false, .string ⟨#[]⟩, .string ⟨#[]⟩], .agg #[.bool false, .string ⟨#[1]⟩, .string ⟨#[]⟩]], .agg #[.bool false, .string ⟨#[1]⟩, .string ⟨#[]⟩])]),
  (354, [
    ([.int .i64 1], .string ⟨#[1]⟩),
    ([.int .i64 100], .string ⟨#[100]⟩)]),
  (438, [
    ([.bool false, .string ⟨#[]⟩, .string ⟨#[60]⟩], .tuple #[.agg #[.bool false, .string ⟨#[]⟩, .string ⟨#[]⟩], .bool true]),
    ([.bool false, .string ⟨#[1]⟩, .string ⟨#[60]⟩], .tuple #[.agg #[.bool false, .string ⟨#[1]⟩, .string ⟨#[60]⟩], .bool true]),
    ([.bool false, .string ⟨#[60]⟩, .string ⟨#[1]⟩], .tuple #[.agg #[.bool false, .string ⟨#[60]⟩, .string ⟨#[]⟩], .bool true]),
    ([.bool false, .string ⟨#[60]⟩, .string ⟨#[60]⟩], .tuple #[.agg #[.bool false, .string ⟨#[1]⟩, .string ⟨#[]⟩], .bool true])])]
theorem okTabA1 : chkTab X0 40 tabA1 = true := by kernel_rfl
def tabA2 : Tab := [
  (127, [
    ([.agg #[.bool false, .string ⟨#[60]⟩, .string ⟨#[]⟩]], .int .i64 1),
    ([.agg #[.bool false, .string ⟨#[]⟩, .string ⟨#[]⟩]], .int .i64 0),
    ([.agg #[.bool false, .string ⟨#[1]⟩, .string ⟨#[]⟩]], .int .i64 1)]),
  (184, [
    ([.agg #[.bool false, .string ⟨#[60]⟩, .string ⟨#[]⟩], .agg #[.bool false, .string ⟨#[]⟩, .string ⟨#[]⟩]], .agg #[.bool false, .string ⟨#[60]⟩, .string ⟨#[]⟩]),
    ([.agg #[.bool false, .string ⟨#[]⟩, .string ⟨#[]⟩], .agg #[.bool false, .string ⟨#[]⟩, .string ⟨#[]⟩]], .agg #[.bool false, .string ⟨#[]⟩, .string ⟨#[]⟩]),
    ([.agg #[.bool false, .string ⟨#[]⟩, .string ⟨#[]⟩], .agg #[.bool false, .string ⟨#[60]⟩, .string ⟨#[]⟩]], .agg #[.bool false, .string ⟨#[60]⟩, .string ⟨#[]⟩]),
    ([.agg #[.bool false, .string ⟨#[]⟩, .string ⟨#[]⟩], .agg #[.bool false, .string ⟨#[1]⟩, .string ⟨#[]⟩]], .agg #[.bool false, .string ⟨#[1]⟩, .string ⟨#[]⟩]),
    ([.agg #[.bool false, .string ⟨#[]⟩, .string ⟨#[]⟩], .agg #[.bool true, .string ⟨#[1]⟩, .string ⟨#[]⟩]], .agg #[.bool true, .string ⟨#[1]⟩, .string ⟨#[]⟩]),
    ([.agg #[.bool false, .string ⟨#[60]⟩, .string ⟨#[]⟩], .agg #[.bool true, .string ⟨#[60]⟩, .string ⟨#[]⟩]], .agg #[.bool false, .string ⟨#[]⟩, .string ⟨#[]⟩]),
    ([.agg #[.bool false, .string ⟨#[1]⟩, .string ⟨#[]⟩], .agg #[.bool false, .string ⟨#[]⟩, .string ⟨#[]⟩]], .agg #[.bool false, .string ⟨#[1]⟩, .string ⟨#[]⟩]),
    ([.agg #[.bool false, .string ⟨#[23, 112]⟩, .string ⟨#[]⟩], .agg #[.bool true, .string ⟨#[23, 112]⟩, .string ⟨#[]⟩]], .agg #[.bool false, .string ⟨#[]⟩, .string ⟨#[]⟩])]),
  (275, [
    ([.string ⟨#[54, 48]⟩], .string ⟨#[60]⟩),
    ([.string ⟨#[48]⟩], .string ⟨#[]⟩)]),
  (299, [
    ([.agg #[.bool false, .string ⟨#[]⟩, .string ⟨#[]⟩]], .agg #[.bool false, .string ⟨#[]⟩, .string ⟨#[]⟩]),
    ([.agg #[.bool false, .string ⟨#[60]⟩, .string ⟨#[]⟩]], .agg #[.bool true, .string ⟨#[60]⟩, .string ⟨#[]⟩]),
    ([.agg #[.bool false, .string ⟨#[1]⟩, .string ⟨#[]⟩]], .agg #[.bool true, .string ⟨#[1]⟩, .string ⟨#[]⟩]),
    ([.agg #[.bool false, .string ⟨#[23, 112]⟩, .string ⟨#[]⟩]], .agg #[.bool true, .string ⟨#[23, 112]⟩, .string ⟨#[]⟩])]),
  (319, [
    ([.agg #[.bool false, .string ⟨#[23, 112]⟩, .string ⟨#[]⟩]], .tuple #[.int .i64 6000, .bool true])])]
theorem okTabA2 : chkTab X0 40 tabA2 = true := by kernel_rfl
def tabA3 : Tab := [
  (128, [
    ([.agg #[.bool false, .string ⟨#[60]⟩, .string ⟨#[]⟩]], .agg #[.bool false, .string ⟨#[60]⟩, .string ⟨#[]⟩]),
    ([.agg #[.bool false, .string ⟨#[]⟩, .string ⟨#[]⟩]], .agg #[.bool false, .string ⟨#[]⟩, .string ⟨#[]⟩]),
    ([.agg #[.bool false, .string ⟨#[1]⟩, .string ⟨#[]⟩]], .agg #[.bool false, .string ⟨#[1]⟩, .string ⟨#[]⟩]),
    ([.agg #[.bool false, .string ⟨#[1]⟩, .string ⟨#[60]⟩]], .agg #[.bool false, .string ⟨#[1]⟩, .string ⟨#[60]⟩]),
    ([.agg #[.bool false, .string ⟨#[100]⟩, .string ⟨#[]⟩]], .agg #[.bool false, .string ⟨#[100]⟩, .string ⟨#[]⟩]),
    ([.agg #[.bool false, .string ⟨#[23, 112]⟩, .string ⟨#[]⟩]], .agg #[.bool false, .string ⟨#[23, 112]⟩, .string ⟨#[]⟩])]),
  (196, [
    ([.agg #[.bool false, .string ⟨#[60]⟩, .string ⟨#[]⟩]], .string ⟨#[1]⟩),
    ([.agg #[.bool false, .string ⟨#[]⟩, .string ⟨#[]⟩]], .string ⟨#[1]⟩),
    ([.agg #[.bool false, .string ⟨#[1]⟩, .string ⟨#[]⟩]], .string ⟨#[1]⟩),
    ([.agg #[.bool false, .string ⟨#[1]⟩, .string ⟨#[60]⟩]], .string ⟨#[60]⟩),
    ([.agg #[.bool false, .string ⟨#[100]⟩, .string ⟨#[]⟩]], .string ⟨#[1]⟩),
    ([.agg #[.bool false, .string ⟨#[23, 112]⟩, .string ⟨#[]⟩]], .string ⟨#[1]⟩)]),
  (317, [
    ([.int .i64 1], .agg #[.bool false, .string ⟨#[1]⟩, .string ⟨#[]⟩]),
    ([.int .i64 100], .agg #[.bool false, .string ⟨#[100]⟩, .string ⟨#[]⟩])]),
  (419, [
    ([.agg #[.bool false, .string ⟨#[60]⟩, .string ⟨#[]⟩]], .agg #[.bool true, .string ⟨#[60]⟩, .string ⟨#[]⟩])]),
  (422, [
    ([.agg #[.bool false, .string ⟨#[]⟩, .string ⟨#[]⟩], .agg #[.bool false, .string ⟨#[60]⟩, .string ⟨#[]⟩]], .tuple #[.agg #[.bool false, .string ⟨#[]⟩, .string ⟨#[]⟩], .bool true]),
    ([.agg #[.bool false, .string ⟨#[1]⟩, .string ⟨#[]⟩], .agg #[.bool false, .string ⟨#[60]⟩, .string ⟨#[]⟩]], .tuple #[.agg #[.bool false, .string ⟨#[1]⟩, .string ⟨#[60]⟩], .bool true]),
    ([.agg #[.bool false, .string ⟨#[60]⟩, .string ⟨#[]⟩], .agg #[.bool false, .string ⟨#[60]⟩, .string ⟨#[]⟩]], .tuple #[.agg #[.bool false, .string ⟨#[1]⟩, .string ⟨#[]⟩], .bool true])])]
theorem okTabA3 : chkTab X0 40 tabA3 = true := by kernel_rfl
def tabA4 : Tab := [
  (82, [
    ([.agg #[.bool false, .string ⟨#[60]⟩, .string ⟨#[]⟩]], .int .i64 1),
    ([.agg #[.bool false, .string ⟨#[]⟩, .string ⟨#[]⟩]], .int .i64 0)]),
  (148, [
    ([.agg #[.bool false, .string ⟨#[]⟩, .string ⟨#[]⟩], .agg #[.bool false, .string ⟨#[]⟩, .string ⟨#[]⟩]], .int .i64 0),
    ([.agg #[.bool false, .string ⟨#[]⟩, .string ⟨#[]⟩], .agg #[.bool false, .string ⟨#[60]⟩, .string ⟨#[]⟩]], .int .i64 (-1)),
    ([.agg #[.bool false, .string ⟨#[]⟩, .string ⟨#[]⟩], .agg #[.bool false, .string ⟨#[1]⟩, .string ⟨#[]⟩]], .int .i64 (-1)),
    ([.agg #[.bool false, .string ⟨#[60]⟩, .string ⟨#[]⟩], .agg #[.bool false, .string ⟨#[]⟩, .string ⟨#[]⟩]], .int .i64 1),
    ([.agg #[.bool false, .string ⟨#[60]⟩, .string ⟨#[]⟩], .agg #[.bool false, .string ⟨#[60]⟩, .string ⟨#[]⟩]], .int .i64 0),
    ([.agg #[.bool false, .string ⟨#[1]⟩, .string ⟨#[]⟩], .agg #[.bool false, .string ⟨#[1]⟩, .string ⟨#[]⟩]], .int .i64 0)]),
  (240, [
    ([.agg #[.bool false, .string ⟨#[]⟩, .string ⟨#[]⟩], .agg #[.bool false, .string ⟨#[]⟩, .string ⟨#[]⟩]], .agg #[.bool false, .string ⟨#[]⟩, .string ⟨#[]⟩]),
    ([.agg #[.bool false, .string ⟨#[]⟩, .string ⟨#[]⟩], .agg #[.bool false, .string ⟨#[1]⟩, .string ⟨#[]⟩]], .agg #[.bool true, .string ⟨#[1]⟩, .string ⟨#[]⟩]),
    ([.agg #[.bool false, .string ⟨#[60]⟩, .string ⟨#[]⟩], .agg #[.bool false, .string ⟨#[]⟩, .string ⟨#[]⟩]], .agg #[.bool false, .string ⟨#[60]⟩, .string ⟨#[]⟩]),
    ([.agg #[.bool false, .string ⟨#[60]⟩, .string ⟨#[]⟩], .agg #[.bool false, .string ⟨#[60]⟩, .string ⟨#[]⟩]], .agg #[.bool false, .string ⟨#[]⟩, .string ⟨#[]⟩]),
    ([.agg #[.bool false, .string ⟨#[1]⟩, .string ⟨#[]⟩], .agg #[.bool false, .string ⟨#[]⟩, .string ⟨#[]⟩]], .agg #[.bool false, .string ⟨#[1]⟩, .string ⟨#[]⟩]),
    ([.agg #[.bool false, .string ⟨#[23, 112]⟩, .string ⟨#[]⟩], .agg #[.bool false, .string ⟨#[23, 112]⟩, .string ⟨#[]⟩]], .agg #[.bool false, .string ⟨#[]⟩, .string ⟨#[]⟩])]),
  (272, [
    ([.string ⟨#[54, 48]⟩], .bool true),
    ([.string ⟨#[48]⟩], .bool true)]),
  (302, [
    ([.agg #[.bool false, .string ⟨#[]⟩, .string ⟨#[]⟩], .agg #[.bool false, .string ⟨#[]⟩, .string ⟨#[]⟩]], .agg #[.bool false, .string ⟨#[]⟩, .string ⟨#[]⟩])])]
theorem okTabA4 : chkTab X0 40 tabA4 = true := by kernel_rfl
theorem chkTab_append {X : Ctx} {n : Nat} : ∀ {a b : Tab}, chkTab X n a = true → chkTab X n b = true → chkTab X n (a ++ b) = true
  | [], _, _, h => h
  | r :: a, b, h, h' => by
    simp only [chkTab, Bool.and_eq_true] at h
    simp only [List.cons_append, chkTab, Bool.and_eq_true]
    exact ⟨h.1, chkTab_append h.2 h'⟩
def tabA : Tab := tabA0 ++ (tabA1 ++ (tabA2 ++ (tabA3 ++ tabA4)))
theorem tabA_ok : chkTab X0 40 tabA = true := chkTab_append okTabA0 (chkTab_append okTabA1 (chkTab_append okTabA2 (chkTab_append okTabA3 okTabA4)))
end Go.Proofs.YtkhhjbmkahibaaaGreatDoor

