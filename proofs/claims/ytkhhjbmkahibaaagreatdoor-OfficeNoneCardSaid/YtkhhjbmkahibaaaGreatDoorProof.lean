/-
  insolvencylaw40.OfficeNone returns true for every input, and its argument reads as before; condition: the listed library tables start as the text of the program lays them (tied by the card).
-/
import Derived.Test.YtkhhjbmkahibaaaGreatDoorSound
import Derived.Test.YtkhhjbmkahibaaaGreatDoorFacts
import Derived.Test.YtkhhjbmkahibaaaGreatDoorTie
import Derived.Test.YtkhhjbmkahibaaaGreatDoorCards
import Derived.ProofKit
import Derived.OpenShut
import Derived.LaidMore
import Derived.Lay
import Derived.SevenTiedAt
import Derived.Stop.Joined
set_option linter.unusedVariables false
set_option linter.unusedSimpArgs false
set_option linter.unusedSectionVars false
set_option linter.unnecessarySimpa false
namespace Go.Proofs.YtkhhjbmkahibaaaGreatDoor
open Go.ChangeShapes Go.WideShapes Go.ChangeAt Go.RowKit
set_option maxRecDepth 100000

theorem own : ownKnob Tryz.prog.godebug = none := by kernel_rfl
theorem cells22 : Tryz.prog.cellsOf 22 = 1 := by kernel_rfl
theorem cells23 : Tryz.prog.cellsOf 23 = 5 := by kernel_rfl

theorem list5 {α : Type} (l : List α) (h : (⟨l⟩ : Array α).size = 5) : ∃ a b c d e, l = [a, b, c, d, e] := by
  match l, h with
  | [a, b, c, d, e], _ => exact ⟨a, b, c, d, e, rfl⟩

theorem rangeU {n : Int} (h : (Lit.int .u16 n).wf = true) : 0 ≤ n ∧ n < 65536 := by
  simp [Lit.wf, IntKind.min, IntKind.max, IntKind.signed, IntKind.bits] at h
  omega

theorem Grew.kept {W w' : World} (h : Grew W w') (may : MemPlace → Prop) : W.keptBut w' may := by
  refine ⟨h.1.1, h.1.2, fun i hi => ?_⟩
  rw [h.2.2 i hi]
  cases hb : W.heap[i]? with
  | none => rfl
  | some o =>
    cases o <;> first | rfl | exact ⟨rfl, rfl, rfl, fun _ _ => rfl⟩ | exact .inr ⟨rfl, rfl⟩

set_option maxHeartbeats 1000000 in
theorem officeNone_lifted (os : Os) (started : os.Started) (H : Type) (enc : TypeId × Value → H) :
    ReturnsInHanded {} Tryz.checked os 3 .any (fun w args => (Rows.officeNoneSpec.pre enc Tryz.prog Tryz.f3 Rows.officeNoneRow.domain false w args ∧ laidMetH Tryz.prog Rows.officeNoneRow.laid w) ∧ sizedMet enc Tryz.prog Tryz.f3 (OpenSpec.ofChange Rows.officeNoneSpec) false w args)
      (Rows.officeNoneSpec.post enc Tryz.prog Tryz.f3 false true false false) := by
  refine returnsInHanded_of_change_and (C := Tryz.checked) (X := fun w _ => laidMetH Tryz.prog Rows.officeNoneRow.laid w) (fun _ _ _ hh h => h.of_heap hh) own started (by kernel_rfl) Tryz.func3
    (ChangeSpec.witness_shaped (enc := enc) (C := Tryz.checked) (os := os) (X := fun w _ => laidMetH Tryz.prog Rows.officeNoneRow.laid w) false (World.laidAll Tryz.prog os Rows.officeNoneRow.laid) #[.agg #[.int .u16 0, .int .u16 0, .int .u16 0, .int .u16 0, .int .u16 0]] 8 (World.laidAll_os _ _ _)
      (World.shaped_of_ZipB (by kernel_rfl) (by kernel_rfl)) (by kernel_rfl) (by kernel_rfl) (by kernel_rfl)
      (by rw [MakeChecks.laidMetH_plain _ _ _ (by kernel_rfl)]; exact laidMet_laidAll _ (by kernel_rfl) (by kernel_rfl))) ?_
  intro W base args ds gs before hval0 hW _ _ hL _
  have hval : ∀ (j : Nat) t v, Tryz.f3.params[j]? = some t → args[j]? = some v → Value.okWide Tryz.prog W .any base t v := hval0
  have hW' := hW
  obtain ⟨p, q, hA0, hV, rfl, _, _⟩ := hW
  have hA : DataW.TrodAll enc Tryz.prog W 0 (fun _ => true) true Tryz.f3.params.toList args.toList ds p := hA0
  rw [Tryz.params3] at hA hval
  obtain ⟨v0, d0, rfl, rfl, h0⟩ := trodAll_one hA
  obtain ⟨rfl, rfl⟩ := trodVars_none hV
  obtain ⟨cs, rfl, hsz, _⟩ : ∃ cs, v0 = .agg cs ∧ cs.size = Tryz.prog.cellsOf 23 ∧ Row.okWide Tryz.prog W .any base 23 cs := by
    have := hval 0 23 v0 rfl rfl
    simpa [Value.okWide, Tryz.underlying23] using this
  rw [cells23] at hsz
  obtain ⟨l⟩ := cs
  obtain ⟨c0, c1, c2, c3, c4, rfl⟩ := list5 l hsz
  obtain ⟨fuel, hf⟩ := h0
  obtain ⟨xs, m, _, hx, _, hl, hel⟩ := DataW.trod_array Tryz.underlying23 hf
  obtain ⟨y0, y1, y2, y3, y4, rfl⟩ := list5 xs (by simpa using hl)
  simp only [cells22] at hel
  obtain ⟨x0, e0, rfl, w0⟩ := DataW.trod_int Tryz.underlying22 (hel 0 (by omega))
  obtain ⟨x1, e1, rfl, w1⟩ := DataW.trod_int Tryz.underlying22 (hel 1 (by omega))
  obtain ⟨x2, e2, rfl, w2⟩ := DataW.trod_int Tryz.underlying22 (hel 2 (by omega))
  obtain ⟨x3, e3, rfl, w3⟩ := DataW.trod_int Tryz.underlying22 (hel 3 (by omega))
  obtain ⟨x4, e4, rfl, w4⟩ := DataW.trod_int Tryz.underlying22 (hel 4 (by omega))
  simp [Value.cells] at e0 e1 e2 e3 e4
  subst e0 e1 e2 e3 e4
  simp only [Prod.mk.injEq] at hx
  obtain ⟨rfl, rfl⟩ := hx
  clear hA0 hval0
  simp only [List.append_nil] at hW'
  obtain ⟨t, hblk⟩ := pow_block hL
  obtain ⟨a0, b0⟩ := rangeU w0
  obtain ⟨a1, b1⟩ := rangeU w1
  obtain ⟨a2, b2⟩ := rangeU w2
  obtain ⟨a3, b3⟩ := rangeU w3
  obtain ⟨a4, b4⟩ := rangeU w4
  obtain ⟨pa, hlaw⟩ := law_all a0 b0 a1 b1 a2 b2 a3 b3 a4 b4 t
  refine (law_calls hblk hlaw).mono fun e W' ⟨he, hw⟩ => ?_
  subst he
  have rdA : ∀ sp : Nat → Bool, DataW.Trod enc Tryz.prog W' 0 sp true 23 (.agg #[.int .u16 x0, .int .u16 x1, .int .u16 x2, .int .u16 x3, .int .u16 x4]) (DataW.agg [.lit (.int .u16 x0), .lit (.int .u16 x1), .lit (.int .u16 x2), .lit (.int .u16 x3), .lit (.int .u16 x4)]) [] := fun sp => ⟨2, by simp [DataW.trod, Value.cells, Tryz.underlying23, Tryz.underlying22, cells23, cells22, w0, w1, w2, w3, w4, show List.range 5 = [0, 1, 2, 3, 4] from rfl]⟩
  refine ⟨_, rfl, _, _, _, [], [], [], hW', ?_, ?_, ?_, hw.kept _, fun h => by cases h⟩
  · exact trodAll_mk1 (shut_bool Tryz.underlying4 true)
  · exact trodAll_mk1 (rdA _)
  · rfl

theorem factNamed : Tryz.prog.funcNamed "insolvency/insolvencylaw40.OfficeNone" = some 3 := by kernel_rfl
theorem officeNone_holds : Rows.OfficeNoneSaid :=
  OpenClaim.holds_of_wide 3 Tryz.f3 rfl rfl rfl rfl rfl rfl rfl ⟨rfl, rfl, rfl, rfl, rfl⟩ rfl rfl rfl rfl rfl factNamed Tryz.func3 joined
    (of_decide_eq_true (by kernel_rfl)) (by unfold Func.isWrapper; first | (rw [if_pos (by decide +kernel)]; kernel_rfl) | (rw [if_neg (by decide +kernel)]; exact ⟨rfl, rfl⟩))
    (fun os started H enc _ => officeNone_lifted os started H enc)
theorem factStand : ([23].all fun u => !Tryz.prog.wantsStandIn u) = true := by kernel_rfl
theorem factLooks : false = Tryz.prog.looks [] := by kernel_rfl
theorem officeNone_card : Rows.OfficeNoneCardSaid :=
  Claim7.holds_tied_plain_at .later [] [.data, .data, .data, .data, .pinned] true (true, "477e18ec2baafc4cd8e792a065f611e1b4e93654b1c653667f16df410258c346") false officeNone_holds (fun _ h => by cases h) (by kernel_rfl) (fun _ h => by cases h) officeNone_row_tie rfl ⟨rfl, rfl⟩ (by kernel_rfl) rfl
    (fun f fn hf hfn => by
      obtain rfl : f = 3 := Option.some.inj (factNamed.symm.trans hf) |>.symm
      obtain rfl : fn = Tryz.f3 := (Option.some.inj (Tryz.func3.symm.trans hfn)).symm
      exact ⟨factLooks, fun j t ht => by
        rw [Tryz.params3] at ht
        have hm : t ∈ [23] := by simpa using Array.mem_of_getElem? ht
        exact (show Tryz.prog.wantsStandIn t = false by simpa using List.all_eq_true.1 factStand t hm)⟩)
    goes_no
#print axioms officeNone_card
end Go.Proofs.YtkhhjbmkahibaaaGreatDoor
