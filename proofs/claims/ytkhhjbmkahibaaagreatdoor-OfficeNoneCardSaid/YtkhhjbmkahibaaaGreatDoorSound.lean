/-
  The law answers true, as a fact about calls.
-/
import Derived.Test.YtkhhjbmkahibaaaGreatDoorPath0
import Derived.Test.YtkhhjbmkahibaaaGreatDoorPath1
import Derived.Test.YtkhhjbmkahibaaaGreatDoorPath2
import Derived.Test.YtkhhjbmkahibaaaGreatDoorPath3
import Derived.Test.YtkhhjbmkahibaaaGreatDoorPath4
import Derived.Test.YtkhhjbmkahibaaaGreatDoorPath5
import Derived.Test.YtkhhjbmkahibaaaGreatDoorCtx
import Derived.Test.YtkhhjbmkahibaaaGreatDoorChecked
import Derived.Test.YtkhhjbmkahibaaaGreatDoorStart
import Derived.Test.YtkhhjbmkahibaaaGreatDoorAwake
import Derived.Test.YtkhhjbmkahibaaaGreatDoorMem
set_option linter.unusedVariables false
set_option linter.unusedSimpArgs false
set_option linter.unusedSectionVars false
set_option linter.unnecessarySimpa false
namespace Go.Proofs.YtkhhjbmkahibaaaGreatDoor
open Go.Am
theorem h3of (x : Int) (h : 0 ≤ x) : x.tmod 3 = 0 ∨ x.tmod 3 = 1 ∨ x.tmod 3 = 2 := by
  have := tmod_range h (m := 3) (by omega)
  omega
theorem law_all {x0 x1 x2 x3 x4 : Int} (a0 : 0 ≤ x0) (b0 : x0 < 65536) (a1 : 0 ≤ x1) (b1 : x1 < 65536) (a2 : 0 ≤ x2) (b2 : x2 < 65536) (a3 : 0 ≤ x3) (b3 : x3 < 65536) (a4 : 0 ≤ x4) (b4 : x4 < 65536) (ty : Nat) : ∃ p, law x0 x1 x2 x3 x4 ty p = true := by
  have hk : x0.tmod 12 = 0 ∨ x0.tmod 12 = 1 ∨ x0.tmod 12 = 2 ∨ x0.tmod 12 = 3 ∨ x0.tmod 12 = 4 ∨ x0.tmod 12 = 5 ∨ x0.tmod 12 = 6 ∨ x0.tmod 12 = 7 ∨ x0.tmod 12 = 8 ∨ x0.tmod 12 = 9 ∨ x0.tmod 12 = 10 ∨ x0.tmod 12 = 11 := by
    have := tmod_range a0 (m := 12) (by omega)
    omega
  rcases hk with h0 | h0 | h0 | h0 | h0 | h0 | h0 | h0 | h0 | h0 | h0 | h0
  · exact ⟨_, p0 ty a1 b1 h0⟩
  · cases h1 : decide (i64 (i64 (x2.tmod 5) - 2) < -1) <;> cases h2 : (x3.tmod 7 == 6)
    · exact ⟨_, p1q0q0 ty a4 b4 h0 h1 h2⟩
    · exact ⟨_, p1q0q1 ty a4 b4 h0 h1 h2⟩
    · exact ⟨_, p1q1q0 ty a4 b4 h0 h1 h2⟩
    · exact ⟨_, p1q1q1 ty a4 b4 h0 h1 h2⟩
  · cases h1 : decide (i64 (i64 (x2.tmod 5) - 2) < -1) <;> cases h2 : (x3.tmod 7 == 6)
    · exact ⟨_, p2q0q0 ty a4 b4 h0 h1 h2⟩
    · exact ⟨_, p2q0q1 ty a4 b4 h0 h1 h2⟩
    · exact ⟨_, p2q1q0 ty a4 b4 h0 h1 h2⟩
    · exact ⟨_, p2q1q1 ty a4 b4 h0 h1 h2⟩
  · cases h1 : decide (i64 (i64 (x2.tmod 5) - 2) < -1) <;> cases h2 : (x3.tmod 7 == 6)
    · exact ⟨_, p3q0q0 ty a4 b4 h0 h1 h2⟩
    · exact ⟨_, p3q0q1 ty a4 b4 h0 h1 h2⟩
    · exact ⟨_, p3q1q0 ty a4 b4 h0 h1 h2⟩
    · exact ⟨_, p3q1q1 ty a4 b4 h0 h1 h2⟩
  · exact ⟨_, p4 ty a4 b4 h0⟩
  · rcases h3of x2 a2 with h1 | h1 | h1
    · cases h2 : ((u16 (x2.tdiv 9)).tmod 3 == 0)
      · exact ⟨_, p5q1q0 ty h0 h1 h2⟩
      · exact ⟨_, p5q1q1 ty h0 h1 h2⟩
    · cases h2 : ((u16 (x2.tdiv 9)).tmod 3 == 0) <;> cases h3 : (x4.tmod 4 == 0)
      · exact ⟨_, p5q2q0q0 ty h0 h1 h2 h3⟩
      · exact ⟨_, p5q2q0q1 ty h0 h1 h2 h3⟩
      · exact ⟨_, p5q2q1q0 ty h0 h1 h2 h3⟩
      · exact ⟨_, p5q2q1q1 ty h0 h1 h2 h3⟩
    · cases h2 : ((u16 (x2.tdiv 9)).tmod 3 == 0) <;> cases h3 : (x4.tmod 4 == 0)
      · exact ⟨_, p5q3q0q0 ty h0 h1 h2 h3⟩
      · exact ⟨_, p5q3q0q1 ty h0 h1 h2 h3⟩
      · exact ⟨_, p5q3q1q0 ty h0 h1 h2 h3⟩
      · exact ⟨_, p5q3q1q1 ty h0 h1 h2 h3⟩
  · rcases h3of x2 a2 with h1 | h1 | h1
    · cases h2 : ((u16 (x2.tdiv 9)).tmod 3 == 0)
      · exact ⟨_, p6q1q0 ty h0 h1 h2⟩
      · exact ⟨_, p6q1q1 ty h0 h1 h2⟩
    · cases h2 : ((u16 (x2.tdiv 9)).tmod 3 == 0) <;> cases h3 : (x4.tmod 4 == 0)
      · exact ⟨_, p6q2q0q0 ty h0 h1 h2 h3⟩
      · exact ⟨_, p6q2q0q1 ty h0 h1 h2 h3⟩
      · exact ⟨_, p6q2q1q0 ty h0 h1 h2 h3⟩
      · exact ⟨_, p6q2q1q1 ty h0 h1 h2 h3⟩
    · cases h2 : ((u16 (x2.tdiv 9)).tmod 3 == 0) <;> cases h3 : (x4.tmod 4 == 0)
      · exact ⟨_, p6q3q0q0 ty h0 h1 h2 h3⟩
      · exact ⟨_, p6q3q0q1 ty h0 h1 h2 h3⟩
      · exact ⟨_, p6q3q1q0 ty h0 h1 h2 h3⟩
      · exact ⟨_, p6q3q1q1 ty h0 h1 h2 h3⟩
  · exact ⟨_, p7 ty h0⟩
  · exact ⟨_, p8 ty a4 b4 h0⟩
  · cases h1 : (x3.tmod 5 == 0) <;> cases h2 : (x2.tmod 9 == 8)
    · exact ⟨_, p9q0q0 ty a4 b4 h0 h1 h2⟩
    · exact ⟨_, p9q0q1 ty a4 b4 h0 h1 h2⟩
    · exact ⟨_, p9q1q0 ty a4 b4 h0 h1 h2⟩
    · exact ⟨_, p9q1q1 ty a4 b4 h0 h1 h2⟩
  · exact ⟨_, p10 ty h0⟩
  · cases h1 : (x4.tmod 6 == 0)
    · exact ⟨_, p11q0 ty h0 h1⟩
    · exact ⟨_, p11q1 ty h0 h1⟩
end Go.Proofs.YtkhhjbmkahibaaaGreatDoor

namespace Go.Proofs.YtkhhjbmkahibaaaGreatDoor
open Go.Am
set_option maxRecDepth 100000
theorem mix : Tryz.prog.follows .mixedOrders = true := Checked.mixed Tryz.checked
theorem k0 : XOk Tryz.prog ti sk X0 := ⟨tok, mix, kz_lies, fun f af h => ftOk f af (kz_fs f af h), extOk, fun f args σ v h => by rw [kz_memo] at h; cases h⟩
end Go.Proofs.YtkhhjbmkahibaaaGreatDoor

namespace Go.Proofs.YtkhhjbmkahibaaaGreatDoor
open Go.Am
set_option maxRecDepth 100000

theorem kB : XOk Tryz.prog ti sk XB := k0.with (fun _ => none) (memoTab_all k0 rfl tabB_ok memoAll_none)
theorem mW_all : MemoAll Tryz.prog (memoOpen 12 rowsW (fun _ _ _ => none)) := memoOpen_all kB rfl rowsW_ok memoAll_none
theorem kR : XOk Tryz.prog ti sk XR := k0.with (fun _ => none) (memoOpen_all kB rfl rowsR_ok mW_all)
theorem mAmt_all : MemoAll Tryz.prog (memoRun XR 5 13 (memoOpen 12 rowsW (fun _ _ _ => none))) := memoRun_all kR rfl 5 13 mW_all
theorem kA : XOk Tryz.prog ti sk XA := k0.with g0 (memoTab_all k0 rfl tabA_ok (memoTab_all k0 rfl tabN_ok memoAll_none))

theorem awake_ran (ty : Nat) : ∃ σ1 ids, callN XA 60 11 [] (st0 ty) = some (.bool true, σ1, ids) ∧ Nat.ble 1 σ1.lo = true := by
  have h := awake_run ty
  unfold isTrue at h
  split at h
  · rename_i b σ1 ids hr
    simp only [Bool.and_eq_true] at h
    obtain ⟨rfl, h2⟩ := h
    exact ⟨σ1, ids, hr, h2⟩
  · cases h

theorem powAt_spec {σ : St} (h : powAt σ = true) : ∃ ty, σ.heap.get 0 = some (.cells pow 0 ty 0) := by
  unfold powAt at h
  split at h
  · rename_i c ro ty fl hb
    simp only [Bool.and_eq_true] at h
    rw [hb, eqLOneEq h.1, of_beqT h.2.1, of_beqT h.2.2]
    exact ⟨ty, rfl⟩
  · cases h

theorem awake_memo {σ : St} (h : powAt σ = true) : MemoOk Tryz.prog g0 11 [] σ (.bool true) := by
  obtain ⟨ty, hb⟩ := powAt_spec h
  obtain ⟨σ1, ids, h1, h2⟩ := awake_ran ty
  refine memo_of (X := XA) (callN_sound kA 60) (σ0 := st0 ty) ⟨fun b x hx => ?_, fun g b hg => ?_⟩ rfl h1 rfl h2 (fun g b hg => hg)
  · by_cases e : b = 0
    · subst e
      have hx' : x = .cells pow 0 ty 0 := by simpa [st0, T.get_node, T.get_nil'] using hx.symm
      subst hx'
      exact ⟨Nat.lt_succ_self 0, (by kernel_rfl : flatBlk (.cells pow 0 0 0) = true), hb⟩
    · simp [st0, T.get_node, T.get_nil', beqF e] at hx
  · have hg : g0 g = some b := hg
    unfold g0 at hg
    cases h : Nat.beq g 3 with
    | false => rw [h] at hg; cases hg
    | true => rw [h] at hg; cases hg; exact Nat.lt_succ_self 0

theorem mL_ok (f : FuncId) (args : List Value) (σ : St) (v : Value) (h : mL f args σ = some (v, true)) : MemoOk Tryz.prog g0 f args σ v := by
  unfold mL memoAwake at h
  cases hb : Nat.beq f 11 with
  | false => rw [hb] at h; exact mAmt_all g0 f args σ v h
  | true =>
    rw [hb] at h
    obtain rfl := of_beqT hb
    simp only [cond_true] at h
    split at h
    · simp only [Option.some.injEq, Prod.mk.injEq] at h
      obtain ⟨rfl, h2⟩ := h
      exact awake_memo h2
    · cases h
theorem kL : XOk Tryz.prog ti sk XL := ⟨k0.tok, k0.mix, k0.lies, k0.fs, k0.ext, mL_ok⟩

/-- what the law's path says of its call -/
theorem law_ran {x0 x1 x2 x3 x4 : Int} {ty p : Nat} (h : law x0 x1 x2 x3 x4 ty p = true) : ∃ σ1 ids, callN XL 60 3 (five x0 x1 x2 x3 x4) (st0 ty) = some (.bool true, σ1, ids) ∧ 1 ≤ σ1.lo := by
  unfold law resTrueP at h
  split at h
  · rename_i b σ1 ids p1 c hr
    simp only [Bool.and_eq_true] at h
    obtain ⟨rfl, h2, rfl⟩ := h
    exact ⟨σ1, ids, callNP_ok 60 _ _ _ _ _ _ hr, of_bleT h2⟩
  · cases h

/-- what is left of the old world -/
def Grew (W w' : World) : Prop := SameOut W w' ∧ W.heap.size ≤ w'.heap.size ∧ ∀ B, B < W.heap.size → w'.heap[B]? = W.heap[B]?
theorem law_calls {x0 x1 x2 x3 x4 : Int} {W : World} {t : TypeId} (hw : W.heap[3]? = some (.cells pow.toArray t (0, 0))) {p : Nat} (h : law x0 x1 x2 x3 x4 t p = true) :
    Calls Tryz.prog 3 #[.agg #[.int .u16 x0, .int .u16 x1, .int .u16 x2, .int .u16 x3, .int .u16 x4]] W fun e w' => e = .returned (.bool true) ∧ Grew W w' := by
  obtain ⟨σ1, ids, h1, h2⟩ := law_ran h
  have ok := start_ok hw
  refine (calls_of_callN kL h1 ok start_g (args := #[.agg #[.int .u16 x0, .int .u16 x1, .int .u16 x2, .int .u16 x3, .int .u16 x4]]) (RelL.closedC rfl) Tryz.func3 (show Tryz.f3.body = some (Tryz.f3.body.getD .skip) by kernel_rfl) (by kernel_rfl)).mono fun e w' he => ?_
  obtain ⟨v', μ', M, rfl, st, r⟩ := he
  have hv : v' = .bool true := r.of_bool
  subst hv
  refine ⟨rfl, st.out, st.size, fun B hB => st.fr B hB fun b x lim hb _ hM => ?_⟩
  have := st.mlo b hM
  have := ok.wf b x hb
  have h1 : (st0 t).next = 1 := rfl
  omega
end Go.Proofs.YtkhhjbmkahibaaaGreatDoor

