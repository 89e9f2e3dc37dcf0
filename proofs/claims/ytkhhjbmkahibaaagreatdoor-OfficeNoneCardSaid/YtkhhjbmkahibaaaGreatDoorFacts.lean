/-
  The closed facts of the row and the card.
-/
import Derived.Test.YtkhhjbmkahibaaaGreatDoorRows
import Derived.JoinedOf
import Derived.KernelRfl
import Derived.Test.YtkhhjbmkahibaaaGreatDoorCards
set_option linter.unusedVariables false
set_option linter.unusedSimpArgs false
set_option linter.unusedSectionVars false
set_option linter.unnecessarySimpa false
namespace Go.Proofs.YtkhhjbmkahibaaaGreatDoor
open Go
set_option maxRecDepth 100000
/-- what the law reaches by plain names -/
theorem clo : Tryz.prog.closure 3 = [3, 4, 12, 33, 68, 67, 117, 174, 175, 13, 34, 69, 118, 176, 177, 219, 220, 277, 278, 279, 333, 14, 5, 15, 35, 40, 36, 70, 71, 72, 100, 158, 119, 37, 73, 120, 38, 74, 39, 16, 17, 18, 41, 43, 44, 75, 121, 42, 45, 76, 78, 77, 122, 178, 221, 280, 281, 282, 334, 283, 209, 261, 335, 362, 378, 262, 322, 379, 264, 263, 179, 222, 284, 223, 285, 236, 286, 287, 336, 288, 289, 337, 296, 290, 224, 123, 19, 30, 20, 47, 79, 124, 82, 128, 127, 180, 225, 291, 226, 227, 292, 181, 228, 294, 325, 293, 338, 344, 321, 339, 363, 340, 364, 365, 341, 366, 367, 380, 342, 343, 345, 346, 229, 125, 182, 80, 126, 81, 83, 129, 130, 131, 84, 97, 157, 132, 133, 134, 183, 135, 48, 49, 50, 85, 136, 86, 137, 184, 196, 195, 231, 230, 295, 232, 297, 57, 24, 87, 51, 88, 89, 138, 139, 90, 140, 141, 144, 187, 185, 142, 143, 186, 91, 145, 146, 189, 190, 234, 188, 233, 92, 147, 191, 235, 193, 192, 58, 93, 94, 148, 194, 237, 298, 347, 149, 197, 238, 239, 198, 240, 299, 95, 150, 199, 241, 200, 242, 300, 301, 243, 302, 244, 303, 245, 305, 307, 306, 348, 304, 246, 247, 308, 248, 309, 310, 311, 201, 249, 312, 349, 368, 313, 351, 372, 397, 398, 350, 369, 381, 401, 402, 371, 317, 354, 331, 387, 382, 383, 404, 425, 426, 427, 422, 438, 316, 403, 61, 405, 407, 428, 429, 388, 408, 409, 386, 410, 406, 411, 257, 390, 389, 412, 391, 394, 414, 415, 413, 430, 392, 417, 416, 431, 441, 433, 442, 448, 449, 419, 450, 418, 395, 421, 423, 439, 447, 440, 396, 393, 420, 432, 434, 443, 436, 435, 437, 444, 445, 446, 370, 384, 385, 352, 373, 353, 250, 314, 151, 202, 153, 152, 203, 251, 315, 252, 204, 253, 205, 254, 318, 255, 319, 355, 154, 96, 155, 206, 256, 156, 207, 259, 260, 258, 320, 356, 357, 374, 399, 52, 46, 6, 7, 25, 21, 22, 53, 98, 54, 56, 99, 55, 23, 8, 10, 31, 62, 9, 26, 59, 101, 159, 60, 27, 28, 29, 11, 32, 63, 102, 160, 208, 161, 210, 162, 211, 265, 323, 64, 65, 103, 104, 105, 107, 164, 106, 163, 212, 165, 213, 266, 267, 324, 326, 268, 269, 327, 328, 358, 359, 66, 108, 166, 214, 270, 329, 109, 110, 111, 112, 167, 116, 168, 113, 169, 215, 271, 330, 217, 276, 272, 273, 274, 275, 332, 360, 375, 376, 377, 400, 424, 361, 170, 216, 171, 172, 173, 218, 114, 115] := by kernel_rfl
theorem factInPlace : (Rows.officeNoneRow.inPlace == Tryz.prog.inPlace 3) = true := by
  unfold Program.inPlace; rw [clo]; kernel_rfl
theorem factUnfollowed : Tryz.prog.unfollowed 3 = true := by
  unfold Program.unfollowed; rw [clo]; kernel_rfl
theorem factUnfollowed2 : (Rows.officeNoneRow.unfollowed == Tryz.prog.unfollowed 3) = true := by
  rw [factUnfollowed]; kernel_rfl
theorem factRecurses : (Rows.officeNoneRow.recurses == Tryz.prog.recurses 3) = true := by
  unfold Program.recurses; rw [factUnfollowed, Bool.true_or]; kernel_rfl
theorem factVars : (Rows.officeNoneRow.named == Tryz.prog.varsNamed 3) = true := by
  unfold Program.varsNamed; rw [clo]; kernel_rfl
theorem joined : joinedFacts Tryz.prog 3 Tryz.f3 Rows.officeNoneSpec Rows.officeNoneRow = true := by
  unfold joinedFacts
  rw [factInPlace, factUnfollowed2, factRecurses, factVars]
  kernel_rfl
end Go.Proofs.YtkhhjbmkahibaaaGreatDoor

namespace Go.Proofs.YtkhhjbmkahibaaaGreatDoor
open Go
theorem none_goes : Tryz.prog.funcs.toList.any Func.goes = false := by kernel_rfl
theorem goes_fn (g : FuncId) : (Tryz.prog.funcs[g]?).any Func.goes = false := by
  cases h : Tryz.prog.funcs[g]? with
  | none => rfl
  | some fn =>
    have hm : fn ∈ Tryz.prog.funcs.toList := List.mem_of_getElem? (i := g) (by simpa using h)
    have := List.any_eq_false.1 none_goes fn hm
    simpa using this
theorem goes_all (f : FuncId) : Tryz.prog.goes f = false := by
  unfold Program.goes
  have h1 : ((Tryz.prog.closure f).any fun g => (Tryz.prog.funcs[g]?).any Func.goes) = false := by
    rw [List.any_eq_false]
    intro g _
    rw [goes_fn g]
    exact Bool.false_ne_true
  have h2 : Tryz.prog.funcs.any Func.goes = false := by
    rw [← Array.any_toList]; exact none_goes
  rw [h1, h2, Bool.and_false]; rfl
theorem goes_no : false = Rows.officeNoneRow.goesBy Tryz.prog := by
  unfold OpenClaim.goesBy Program.goesAt Program.goesFrom
  cases Tryz.prog.funcNamed Rows.officeNoneRow.func with
  | none => rfl
  | some f => simp only [Option.any_some, goes_all]; rfl
end Go.Proofs.YtkhhjbmkahibaaaGreatDoor

