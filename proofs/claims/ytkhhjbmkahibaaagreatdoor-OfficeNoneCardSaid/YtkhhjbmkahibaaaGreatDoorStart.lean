/-
  The state in which the call begins.
-/
import Derived.Test.YtkhhjbmkahibaaaGreatDoorMem
import Derived.Test.YtkhhjbmkahibaaaGreatDoorAmF
import Derived.Test.YtkhhjbmkahibaaaGreatDoorRows
import Derived.ProofKit
import Derived.OpenShut
import Derived.LaidMore
import Derived.Lay
set_option linter.unusedVariables false
set_option linter.unusedSimpArgs false
set_option linter.unusedSectionVars false
set_option linter.unnecessarySimpa false
namespace Go.Proofs.YtkhhjbmkahibaaaGreatDoor
open Go.Am Go.ChangeShapes Go.WideShapes Go.ChangeAt Go.RowKit
set_option maxRecDepth 100000

def powD : List (DataW Unit) := pow.map fun v => match v with | .int k n => .lit (.int k n) | _ => .nil
theorem pow_block {W : World} (h : laidMetH Tryz.prog Rows.officeNoneRow.laid W) : ∃ t, W.heap[3]? = some (.cells pow.toArray t (0, 0)) := by
  rw [MakeChecks.laidMetH_plain _ _ _ (by kernel_rfl)] at h
  obtain ⟨ps, ⟨_, _, _, _, _, q1, _, _, _, _, ⟨_, _, _, _, _, q2, _, _, _, _, ⟨g, t, cs, fuel, p, q3, hg, ht, hv, hd, _, e3⟩, e2⟩, e1⟩, _, hcell⟩ := h
  obtain rfl := Option.some.inj ((show Tryz.prog.globalNamed "internal/strconv.uint64pow10" = some 3 by kernel_rfl).symm.trans hg)
  obtain rfl := Option.some.inj ((show (Tryz.prog.globals[3]?).map (·.type) = some 394 by kernel_rfl).symm.trans ht)
  obtain ⟨xs, m, _, ex, hlen, hl, hel⟩ := DataW.trod_array Tryz.underlying394 hd
  have c153 : Tryz.prog.cellsOf 153 = 1 := by kernel_rfl
  have c394 : Tryz.prog.cellsOf 394 = 20 := by kernel_rfl
  rw [c394] at hlen
  have hlenP : pow.length = 20 := rfl
  have e5 : xs.map (·.1) = powD := (DataW.agg.inj (Prod.mk.inj ex).1).symm
  have hcs : cs.toList = pow := by
    refine List.ext_getElem? fun r => ?_
    by_cases hr : r < 20
    · have hE := hel r hr
      rw [c153, Nat.mul_one, List.getElem?_eq_getElem (by omega)] at hE
      obtain ⟨z, f1, f2, _⟩ := DataW.trod_int Tryz.underlying153 hE
      have e6 : (xs.map (·.1))[r]? = powD[r]? := by rw [e5]
      rw [List.getElem?_map, List.getElem?_eq_getElem (by omega : r < xs.length), f2] at e6
      have h0 : ((cs.toList.drop r).take 1)[0]? = some (.int .u64 z) := by rw [f1]; rfl
      have h1 : cs.toList[r]? = some (.int .u64 z) := by simpa using h0
      rw [h1]
      simp only [powD, List.getElem?_map, Option.map_some] at e6
      have : ∀ v ∈ pow, ∃ n, v = .int .u64 n := by
        intro v hv
        simp only [pow, List.mem_cons, List.not_mem_nil, or_false] at hv
        rcases hv with rfl | rfl | rfl | rfl | rfl | rfl | rfl | rfl | rfl | rfl | rfl | rfl | rfl | rfl | rfl | rfl | rfl | rfl | rfl | rfl <;> exact ⟨_, rfl⟩
      cases hp : pow[r]? with
      | none => rw [hp] at e6; simp at e6
      | some v =>
        rw [hp] at e6
        obtain ⟨n, rfl⟩ := this v (List.mem_of_getElem? hp)
        simp only [Option.map_some, Option.some.injEq, DataW.lit.injEq, Lit.int.injEq, true_and] at e6
        rw [e6]
    · rw [List.getElem?_eq_none (by omega), List.getElem?_eq_none (by omega)]
  have hsz : cs.size = 20 := by rw [← hlen]; simp
  have hin : MemPlace.cell 3 0 ∈ ps := by
    rw [e1, e2, e3, hsz]
    simp [MemPlace.row]
  obtain ⟨⟨c, ty, hc⟩, _⟩ := hcell 3 0 hin
  refine ⟨ty, ?_⟩
  rw [hc]
  have hvar : W.var? Tryz.prog "internal/strconv.uint64pow10" = some c := by
    unfold World.var?
    rw [hg]
    simp only [Option.bind_some, hc]
  rw [hvar] at hv
  obtain rfl := Option.some.inj hv
  obtain ⟨l⟩ := c
  rw [show l = pow from hcs]

def mu0 : Mp := fun b => if b = 0 then some (3, 20) else none
theorem start_ok {W : World} {t : TypeId} (h : W.heap[3]? = some (.cells pow.toArray t (0, 0))) : Ok mu0 W (st0 t) := by
  have hget : ∀ b x, (st0 t).heap.get b = some x → b = 0 ∧ x = .cells pow 0 t 0 := by
    intro b x hb
    by_cases e : b = 0
    · subst e
      exact ⟨rfl, by simpa [st0, T.get_node, T.get_nil'] using hb.symm⟩
    · simp [st0, T.get_node, T.get_nil', beqF e] at hb
  refine ⟨⟨fun b x hb => ?_, fun b b' x x' B l l' hb hb' _ _ => ?_⟩, fun b x hb => ?_, fun b hb => ?_⟩
  · obtain ⟨rfl, rfl⟩ := hget b x hb
    refine ⟨3, 20, rfl, pow.toArray, (0, 0), h, by decide, by decide, fun _ => rfl, fun i v hv => ⟨v, by simpa using hv, ?_⟩, ⟨fun i _ _ => by simp, fun _ => ⟨0, Nat.le_refl _, rfl⟩⟩⟩
    have : pow.all closed1 = true := by kernel_rfl
    exact .closed1 (List.all_eq_true.1 this v (List.mem_of_getElem? hv))
  · rw [(hget b x hb).1, (hget b' x' hb').1]
  · rw [(hget b x hb).1]; exact Nat.lt_succ_self 0
  · have h1 : 1 ≤ b := hb
    simp only [mu0, if_neg (show ¬ b = 0 by omega)]
theorem start_g : GRel g0 mu0 := by
  intro g b hb
  unfold g0 at hb
  cases h : Nat.beq g 3 with
  | false => rw [h] at hb; cases hb
  | true => rw [h] at hb; cases hb; rw [of_beqT h]; exact ⟨20, rfl⟩
end Go.Proofs.YtkhhjbmkahibaaaGreatDoor

