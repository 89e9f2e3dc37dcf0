/-
  The abstract machine: what an operation does is sound, second part.
-/
import Derived.Test.YtkhhjbmkahibaaaGreatDoorAmB
import Derived.Laws.AppendOwn
set_option linter.unusedVariables false
set_option linter.unusedSimpArgs false
set_option linter.unusedSectionVars false
set_option linter.unnecessarySimpa false
namespace Go.Am
section
variable {P : Program} {ρ : Operand → Value} {μ : Mp} {w : World} {G : GT} {env : Env} {D : Operand → Bool}
variable {ti : TypeId → Option TypeInfo}

theorem put_cells : ∀ (vs : List Value) (k off : Nat) (cells : Array Value), off + k + vs.length ≤ cells.size →
    ((vs.zipIdx k).foldl (fun cs (x : Value × Nat) => cs.setIfInBounds (off + x.2) x.1) cells).toList = splice cells.toList (off + k) vs := by
  intro vs
  induction vs with
  | nil => intro k off cells h; simp [splice]
  | cons v vs ih =>
    intro k off cells h
    simp only [List.length_cons] at h
    simp only [List.zipIdx_cons, List.foldl_cons]
    rw [ih (k + 1) off _ (by simp; omega)]
    apply List.ext_getElem?
    intro j
    rw [splice_get _ _ _ (by simp; omega), splice_get _ _ _ (by simp; omega)]
    simp only [List.length_cons]
    by_cases h1 : off + (k + 1) ≤ j ∧ j < off + (k + 1) + vs.length
    · rw [if_pos h1, if_pos (by omega)]
      have : j - (off + k) = (j - (off + (k + 1))) + 1 := by omega
      rw [this]; simp
    · rw [if_neg h1]
      by_cases h2 : j = off + k
      · subst h2
        rw [if_pos (by omega)]
        have : off + k < cells.size := by omega
        simp [this]
      · rw [if_neg (by omega)]
        simp [List.getElem?_set, Ne.symm h2]

theorem RelL.splice {xs ys us vs : List Value} (h : RelL μ xs ys) (h' : RelL μ us vs) (o : Nat) : RelL μ (splice xs o us) (splice ys o vs) := by
  unfold Go.Am.splice
  rw [h'.length]
  exact ((h.take _).append h').append (h.drop _)

theorem fill_rel {place : Nat → Option (Nat × Nat)} (hρ : OpdRel D G env μ ρ) : ∀ (parts : List (Nat × Operand)) (parts' : List (Nat × Nat × AOpd)) {cells cells' c : List Value}, parts.all (fun p => D p.2) = true →
    (∀ (j : Nat) p', parts'[j]? = some p' → ∃ p, parts[j]? = some p ∧ place p.1 = some (p'.1, p'.2.1) ∧ p'.2.2 = opd p.2) → parts.length = parts'.length →
    fillA G env cells parts' = some c → RelL μ cells cells' → ∃ c', Instr.fill place ⟨cells'⟩ (parts.map fun p => (p.1, ρ p.2)) = some ⟨c'⟩ ∧ RelL μ c c' := by
  intro parts
  induction parts with
  | nil =>
    intro parts' cells cells' c _ _ hl h hr
    cases parts' with
    | nil => simp [fillA] at h; subst h; exact ⟨cells', rfl, hr⟩
    | cons _ _ => simp at hl
  | cons p parts ih =>
    intro parts' cells cells' c hok hp hl h hr
    cases parts' with
    | nil => simp at hl
    | cons p' parts' =>
      obtain ⟨q, hq, hpl, hop⟩ := hp 0 p' rfl
      simp at hq; subst hq
      obtain ⟨off, size, x⟩ := p'
      simp only at hpl hop
      subst hop
      simp only [fillA] at h
      simp only [List.all_cons, Bool.and_eq_true] at hok
      cases hv : ev G env (opd p.2) with
      | none => rw [hv] at h; simp at h
      | some xv =>
        rw [hv] at h
        simp only at h
        cases hb : (Nat.beq (vcells xv).length size && Nat.ble (off + size) cells.length) with
        | false => rw [hb] at h; simp at h
        | true =>
          rw [hb] at h
          simp only [Bool.and_eq_true] at hb
          have hx := (hρ p.2 hok.1 xv hv).cells
          have hlen := hx.length
          have hcl := hr.length
          have e1 := of_beqT hb.1
          have e2 := of_bleT hb.2
          obtain ⟨c', f1, f2⟩ := ih parts' (c := c) (by simpa using hok.2) (fun j q hq => by simpa using hp (j + 1) q (by simpa using hq)) (by simpa using hl) h (hr.splice hx off)
          refine ⟨c', ?_, f2⟩
          simp only [List.map_cons, Instr.fill, hpl]
          have hsz : (ρ p.2).cells.size = size := by simp at hlen; omega
          have hcs : (⟨cells'⟩ : Array Value).size = cells'.length := rfl
          rw [if_neg (by simp [hsz, hcs]; omega)]
          have : (Array.foldl (fun cs (x : Value × Nat) => cs.setIfInBounds (off + x.2) x.1) (⟨cells'⟩ : Array Value) (ρ p.2).cells.zipIdx) = ⟨Go.Am.splice cells' off (ρ p.2).cells.toList⟩ := by
            rw [← Array.foldl_toList, Array.toList_zipIdx]
            have := put_cells (ρ p.2).cells.toList 0 off ⟨cells'⟩ (by simp [hsz, hcs]; omega)
            rw [← Array.toArray_toList (xs := List.foldl _ _ _), this]
            simp
          rw [this]
          exact f1

theorem replicateL_length {α : Type} : ∀ (n : Nat) (l : List α), (replicateL n l).length = n * l.length
  | 0, l => by simp [replicateL]
  | n + 1, l => by rw [replicateL, List.length_append, replicateL_length n l, Nat.succ_mul]; omega
theorem replicateL_get {α : Type} (l : List α) : ∀ (n i : Nat), i < n * l.length → (replicateL n l)[i]? = l[i % l.length]?
  | 0, i, h => by simp at h
  | n + 1, i, h => by
    rw [replicateL]
    by_cases h1 : i < l.length
    · rw [List.getElem?_append_left h1, Nat.mod_eq_of_lt h1]
    · rw [List.getElem?_append_right (by omega), replicateL_get l n _ (by rw [Nat.succ_mul] at h; omega)]
      congr 1
      rw [← Nat.mod_eq_sub_mod (by omega)]
theorem range_zero (z : Array Value) (n : Nat) : (Array.range (n * z.size)).map (fun i => z[i % z.size]!) = ⟨replicateL n z.toList⟩ := by
  apply Array.ext'
  apply List.ext_getElem?
  intro i
  by_cases h : i < n * z.size
  · have hz : 0 < z.size := by
      rcases Nat.eq_zero_or_pos z.size with e | e
      · rw [e] at h; simp at h
      · exact e
    have hm : i % z.size < z.size := Nat.mod_lt _ hz
    have e := replicateL_get z.toList n i (by simpa using h)
    simp only [Array.length_toList] at e
    rw [e]
    simp [h, hm]
  · have e1 : (replicateL n z.toList)[i]? = none := List.getElem?_eq_none (by rw [replicateL_length]; simpa using Nat.le_of_not_lt h)
    rw [e1]
    simp; omega
theorem RelL.replicateL {l : List Value} (h : l.all closed1 = true) : ∀ n, RelL μ (replicateL n l) (replicateL n l)
  | 0 => .nil
  | n + 1 => (RelL.closed h).append (RelL.replicateL h n)

theorem run_askRoom (n : Nat) (w : World) : (askRoom n).run P w = .ok () w := by
  unfold askRoom; split <;> simp [mark, Sem.run]

theorem growBy_le (need : Nat) : ∀ (r c : Nat), c < need → 256 ≤ c → Builtin.growBy need r c ≤ 3 * need
  | 0, c, h, _ => by simp [Builtin.growBy]; omega
  | r + 1, c, h, h2 => by
    simp only [Builtin.growBy]
    rw [if_neg (by omega)]
    by_cases h3 : c + (c + 768) / 4 < need
    · exact growBy_le need r _ h3 (by omega)
    · cases r with
      | zero => simp [Builtin.growBy]; omega
      | succ r => simp only [Builtin.growBy]; rw [if_pos (by omega)]; omega
theorem nextcap_le (need c : Nat) (h : c < need) : Builtin.nextslicecap need c ≤ 3 * need := by
  unfold Builtin.nextslicecap
  split
  · omega
  · split
    · omega
    · exact growBy_le need 4 c h (by omega)
end
end Go.Am

namespace Go.Am
section
variable {P : Program} {ρ : Operand → Value} {o : Oper} {μ : Mp} {w : World} {σ σ' : St} {v : Value} {G : GT} {L : TypeId → Nat → Nat → TypeId → Bool} {env : Env} {D : Operand → Bool}
variable {ti : TypeId → Option TypeInfo} {sk : TypeId → Bool}

theorem all_opd {l : List Operand} : (l.map opd).length = l.length := by simp

variable (hρ : OpdRel D G env μ ρ) (ok : Ok μ w σ)

include hρ ok
theorem snd_mkfun {f : FuncId} {first captured : Array Operand} (hop : o.op = .makeFunc (.func f) first captured) (h1 : first.toList.all D = true) (h2 : captured.toList.all D = true)
    (h : aop G L env (.mkfun (.func f) (opds first) (opds captured)) σ = some (v, σ')) : OpOut P ρ o μ w σ v σ' := by
  simp only [aop, opds] at h
  cases e1 : evs G env (first.toList.map opd) with
  | none => rw [e1] at h; exact (H.fail_some h).elim
  | some a =>
    cases e2 : evs G env (captured.toList.map opd) with
    | none => rw [e1, e2] at h; exact (H.fail_some h).elim
    | some b =>
      rw [e1, e2] at h
      obtain ⟨rfl, rfl⟩ := H.pure_some h
      have r1 := hρ.list h1 e1
      have r2 := hρ.list h2 e2
      refine .pure ok (n := .value (.func (.func f) ⟨first.toList.map ρ⟩ ⟨captured.toList.map ρ⟩)) ?_ rfl (.func r1 r2)
      have g : ∀ a : Array Operand, a.map ρ = ⟨a.toList.map ρ⟩ := fun a => by apply Array.ext'; simp
      simp [execOp, hop, Instr.makeFunc, g]

theorem snd_build_struct (T : TOk P ti sk) {t : TypeId} {fs : Array Field} {parts : Array (Nat × Operand)} {z : List Value} {l : List (Nat × Nat × AOpd)} (hop : o.op = .build t parts) (hok : parts.toList.all (fun p => D p.2) = true)
    (hu : und ti t = some (.struct fs)) (hz : zeroCells? ti t = some z) (hall : fs.toList.all (fun f => (cellsOf? ti f.type).isSome) = true) (hl : fieldParts ti fs.toList parts.toList = some l)
    (h : aop G L env (.build z l) σ = some (v, σ')) : OpOut P ρ o μ w σ v σ' := by
  obtain ⟨zv, hz1, hz2, hz3⟩ := zeroCells_spec hz
  obtain ⟨c, σ1, k1, k2⟩ := H.bind_some h
  obtain ⟨h1, rfl⟩ := H.opt_some k1
  obtain ⟨rfl, rfl⟩ := H.pure_some k2
  -- the places
  have hplaces : ∀ (l : List Field), l.all (fun f => (cellsOf? ti f.type).isSome) = true → ∀ w, (l.mapM (m := Sem) fun f => do pure (f.offset, ← sizeOf f.type)).run P w = .ok (l.map fun f => (f.offset, (cellsOf? ti f.type).getD 0)) w := by
    intro l
    induction l with
    | nil => intro _ w; rfl
    | cons f l ih =>
      intro hl w
      simp only [List.all_cons, Bool.and_eq_true] at hl
      obtain ⟨n, hn⟩ := Option.isSome_iff_exists.1 hl.1
      simp only [List.mapM_cons, Sem.run_bind, run_size T.info hn, Result.andThen, Sem.run_pure, ih hl.2 w, List.map_cons, hn, Option.getD_some]
  have hp : ∀ w, (fs.mapM (m := Sem) fun f => do pure (f.offset, ← sizeOf f.type)).run P w = .ok (fs.map fun f => (f.offset, (cellsOf? ti f.type).getD 0)) w := by
    intro w
    rw [Array.mapM_eq_mapM_toList]
    simp only [Sem.run_map]
    rw [hplaces _ hall w]
    simp only [Result.andThen]
    congr 1
    apply Array.ext'
    simp
  have hlen : ∀ (ps : List (Nat × Operand)) (l : List (Nat × Nat × AOpd)), fieldParts ti fs.toList ps = some l → ps.length = l.length ∧
      ∀ (j : Nat) p', l[j]? = some p' → ∃ p, ps[j]? = some p ∧ ((fs.map fun f => (f.offset, (cellsOf? ti f.type).getD 0))[p.1]?) = some (p'.1, p'.2.1) ∧ p'.2.2 = opd p.2 := by
    intro ps
    induction ps with
    | nil => intro l hl; simp [fieldParts] at hl; subst hl; exact ⟨rfl, fun j p' hj => by simp at hj⟩
    | cons p ps ih =>
      intro l hl
      obtain ⟨i, x⟩ := p
      simp only [fieldParts] at hl
      cases hf : fs.toList[i]? with
      | none => rw [hf] at hl; simp at hl
      | some f =>
        cases hr : fieldParts ti fs.toList ps with
        | none => rw [hf, hr] at hl; simp at hl
        | some r =>
          rw [hf, hr] at hl
          simp only at hl
          cases hc : cellsOf? ti f.type with
          | none => rw [hc] at hl; simp at hl
          | some s =>
            rw [hc] at hl; simp at hl; subst hl
            obtain ⟨a, b⟩ := ih r hr
            refine ⟨by simp [a], fun j p' hj => ?_⟩
            cases j with
            | zero => simp at hj; subst hj; exact ⟨(i, x), rfl, by simp at hf; simp [hf, hc], rfl⟩
            | succ j => simpa using b j p' (by simpa using hj)
  obtain ⟨e1, e2⟩ := hlen _ _ hl
  obtain ⟨c', g1, g2⟩ := fill_rel (place := ((fs.map fun f => (f.offset, (cellsOf? ti f.type).getD 0))[·]?)) hρ parts.toList l hok e2 e1 h1 (RelL.closed hz3)
  refine .pure ok (n := .value (.agg ⟨c'⟩)) ?_ rfl (.agg g2)
  have hzc : zv.cells = ⟨z⟩ := by rw [← hz2]
  have hparts : (parts.map fun (i, x) => (i, ρ x)).toList = parts.toList.map fun p => (p.1, ρ p.2) := by simp
  simp only [execOp, hop, Instr.build, Sem.run_bind, run_zero T.info hz1, Result.andThen, run_und T.info hu, hp, hparts, hzc, g1]
  rfl

theorem snd_bslice (T : TOk P ti sk) {t e : TypeId} {n s : Nat} {parts : Array (Nat × Operand)} {z : List Value} (hop : o.op = .buildSlice t n parts) (hok : parts.toList.all (fun p => D p.2) = true)
    (hu : und ti t = some (.slice e)) (hs : cellsOf? ti e = some s) (hz : zeroCells? ti e = some z) (hb : n * s ≤ 16777216) (hzl : z.length = s) (hs1 : 1 ≤ s)
    (h : aop G L env (.bslice e s z n (elemParts s parts.toList)) σ = some (v, σ')) : OpOut P ρ o μ w σ v σ' := by
  obtain ⟨zv, hz1, hz2, hz3⟩ := zeroCells_spec hz
  obtain ⟨c, σ1, k1, k2⟩ := H.bind_some h
  obtain ⟨h1, rfl⟩ := H.opt_some k1
  obtain ⟨b, σ2, k3, k4⟩ := H.bind_some k2
  obtain ⟨rfl, rfl⟩ := newBlk_some k3
  obtain ⟨rfl, rfl⟩ := H.pure_some k4
  have hlen : ∀ (ps : List (Nat × Operand)), ps.length = (elemParts s ps).length ∧
      ∀ (j : Nat) p', (elemParts s ps)[j]? = some p' → ∃ p, ps[j]? = some p ∧ (fun i => some (i * s, s)) p.1 = some (p'.1, p'.2.1) ∧ p'.2.2 = opd p.2 := by
    intro ps
    induction ps with
    | nil => exact ⟨rfl, fun j p' hj => by simp [elemParts] at hj⟩
    | cons p ps ih =>
      refine ⟨by simp [elemParts, ih.1], fun j p' hj => ?_⟩
      cases j with
      | zero => simp [elemParts] at hj; subst hj; exact ⟨p, rfl, rfl, rfl⟩
      | succ j => simpa using ih.2 j p' (by simpa [elemParts] using hj)
  obtain ⟨e1, e2⟩ := hlen parts.toList
  obtain ⟨c', g1, g2⟩ := fill_rel (place := fun i => some (i * s, s)) hρ parts.toList _ hok e2 e1 h1 (RelL.replicateL (μ := μ) hz3 n)
  have hzc : zv.cells = ⟨z⟩ := by rw [← hz2]
  have hparts : (parts.map fun (i, x) => (i, ρ x)).toList = parts.toList.map fun p => (p.1, ρ p.2) := by simp
  have hclen : c.length = n * s := by
    have : ∀ (ps : List (Nat × Nat × AOpd)) (cells c : List Value), fillA G env cells ps = some c → c.length = cells.length := by
      intro ps
      induction ps with
      | nil => intro cells c h; simp [fillA] at h; rw [h]
      | cons p ps ih =>
        intro cells c h
        obtain ⟨off, size, x⟩ := p
        simp only [fillA] at h
        cases hv : ev G env x with
        | none => rw [hv] at h; simp at h
        | some xv =>
          rw [hv] at h
          simp only at h
          cases hb : (Nat.beq (vcells xv).length size && Nat.ble (off + size) cells.length) with
          | false => rw [hb] at h; simp at h
          | true =>
            rw [hb] at h
            simp only [Bool.and_eq_true] at hb
            rw [ih _ _ h, splice_length]
            have := of_beqT hb.1; have := of_bleT hb.2; omega
    rw [this _ _ _ h1, replicateL_length, hzl]
  have hc'len : c'.length = n * s := by rw [← g2.length, hclen]
  refine OpOut.new ok (cs := c') (mk := fun b => .slice (some ⟨b, 0, tagOf s true⟩) n n) (lim := n * s) (fl := 1) (w1 := { w with heap := w.heap.push (.cells c'.toArray e) }) (v' := .slice (some ⟨w.heap.size, 0, none⟩) n n) rfl ?_ (by rw [g2.length, List.take_length]; exact g2) (by omega) (by omega) (fun e => by cases e) ?_
  · have hr := range_zero zv.cells n
    have hzs : zv.cells.size = s := by rw [hzc]; exact hzl
    rw [hzs] at hr
    have hzt : zv.cells.toList = z := hz2
    by_cases h0 : n * s = 0
    · have hn0 : replicateL n z = [] := List.eq_nil_of_length_eq_zero (by rw [replicateL_length, hzl]; exact h0)
      rw [hn0] at g1
      simp [execOp, hop, Instr.buildSlice, run_und T.info hu, run_size T.info hs, h0, newRow, newObj, Sem.run]
      rw [show (Array.map (fun _ => (default : Value)) (Array.range 0)) = (⟨[]⟩ : Array Value) from by simp, g1]
      simp [Sem.run]
    · have g1' := g1
      rw [← hzt, ← hr] at g1'
      have hlt : ¬ (16777216 < n * s) := by omega
      simp [execOp, hop, Instr.buildSlice, run_und T.info hu, run_size T.info hs, h0, run_zero T.info hz1, hlt, newRow, newObj, Sem.run]
      simp only [hzs]
      rw [g1']
      simp [Sem.run]
  · refine .slice (Mp.up_same ..) (by simp; omega) (Nat.le_refl _) (fun _ => rfl) (Nat.le_refl _) ?_
    simp
    have : (2 * s + 1) / 2 = s := by omega
    rw [this]; omega
end
end Go.Am

namespace Go.Am
section
variable {P : Program} {ρ : Operand → Value} {o : Oper} {μ : Mp} {w : World} {σ σ' : St} {v : Value} {G : GT} {L : TypeId → Nat → Nat → TypeId → Bool} {env : Env} {D : Operand → Bool}
variable {ti : TypeId → Option TypeInfo} {sk : TypeId → Bool}
variable (hρ : OpdRel D G env μ ρ) (ok : Ok μ w σ)

include hρ ok
theorem snd_idxA (T : TOk P ti sk) {t e : TypeId} {x i : Operand} {s len : Nat} {a : Bool} (hop : o.op = .index t x i) (hx : D x = true) (hi : D i = true)
    (hu : und ti t = some (.array len e)) (hn : cellsOf? ti e = some s) (ha : aggOf ti e = some a)
    (h : aop G L env (.idxA len s a (opd x) (opd i)) σ = some (v, σ')) : OpOut P ρ o μ w σ v σ' := by
  simp only [aop] at h
  cases hv : ev G env (opd x) with
  | none => rw [hv] at h; exact (H.fail_some h).elim
  | some xv =>
    have hr := hρ x hx _ hv
    generalize hq : ρ x = q at hr
    cases hvi : ev G env (opd i) with
    | none => rw [hv, hvi] at h; cases hr <;> exact (H.fail_some h).elim
    | some iv =>
      rw [hv, hvi] at h
      have hri := hρ i hi _ hvi
      generalize hqi : ρ i = qi at hri
      cases hr with
      | agg e1 =>
        rename_i xs ys
        cases hri with
        | int k n =>
          simp only at h
          split at h
          · rename_i hb
            obtain ⟨h1, rfl⟩ := H.opt_some h
            obtain ⟨y, g1, g2⟩ := run_part T.info hn ha e1 h1 w
            refine .pure ok (n := .value y) ?_ rfl g2
            simp [execOp, hop, hq, hqi, Instr.index, asIntOf, run_und T.info hu, hb, run_size T.info hn, g1]
          · exact (H.fail_some h).elim
        | _ => exact (H.fail_some h).elim
      | _ => exact (H.fail_some h).elim

theorem snd_mkslice (T : TOk P ti sk) {t e : TypeId} {l c : Operand} {i : TypeInfo} {z : List Value} (hop : o.op = .makeSlice t l c) (hl : D l = true) (hc : D c = true)
    (hu : und ti t = some (.slice e)) (hi : ti e = some i) (hz : zeroCells? ti e = some z) (hzl : z.length = i.size) (hs1 : 1 ≤ i.size)
    (h : aop G L env (.mkslice e i.size i.bytes z (opd l) (opd c)) σ = some (v, σ')) : OpOut P ρ o μ w σ v σ' := by
  obtain ⟨zv, hz1, hz2, hz3⟩ := zeroCells_spec hz
  simp only [aop] at h
  cases hv : ev G env (opd l) with
  | none => rw [hv] at h; exact (H.fail_some h).elim
  | some lv =>
    have hr := hρ l hl _ hv
    generalize hq : ρ l = q at hr
    cases hvc : ev G env (opd c) with
    | none => rw [hv, hvc] at h; cases hr <;> exact (H.fail_some h).elim
    | some cv =>
      rw [hv, hvc] at h
      have hrc := hρ c hc _ hvc
      generalize hqc : ρ c = qc at hrc
      cases hr with
      | int k n =>
        cases hrc with
        | int k' m =>
          simp only at h
          split at h
          · rename_i hb
            obtain ⟨hb1, hb2, hb3, hb4⟩ := hb
            obtain ⟨b, σ2, k3, k4⟩ := H.bind_some h
            obtain ⟨rfl, rfl⟩ := newBlk_some k3
            obtain ⟨rfl, rfl⟩ := H.pure_some k4
            have w1 : IntKind.i64.wrap n = n := by simp [IntKind.wrap, IntKind.signed, IntKind.bits, Int.bmod]; omega
            have w2 : IntKind.i64.wrap m = m := by simp [IntKind.wrap, IntKind.signed, IntKind.bits, Int.bmod]; omega
            have hsz : cellsOf? ti e = some i.size := by simp [cellsOf?, hi]
            have hzs : zv.cells.size = i.size := by rw [← hzl, ← hz2]; simp
            have hr := range_zero zv.cells m.toNat
            rw [hzs, hz2] at hr
            refine OpOut.new ok (cs := replicateL m.toNat z) (mk := fun b => .slice (some ⟨b, 0, tagOf i.size true⟩) n.toNat m.toNat) (lim := m.toNat * i.size) (fl := 1) (w1 := { w with heap := w.heap.push (.cells (replicateL m.toNat z).toArray e) }) (v' := .slice (some ⟨w.heap.size, 0, none⟩) n.toNat m.toNat) rfl ?_ (by rw [List.take_length]; exact RelL.replicateL hz3 _) (by rw [replicateL_length, hzl]; exact Nat.le_refl _) (by rw [replicateL_length, hzl]; exact Nat.le_refl _) (fun e => by cases e) ?_
            · have t1 : ¬ (m < 0) := by omega
              have t2 : ¬ ((i.bytes : Int) * m > 2 ^ 48) := by omega
              have t3 : ¬ (n < 0) := by omega
              have t4 : ¬ (m < n) := by omega
              by_cases h0 : m.toNat * i.size = 0
              · have hn0 : replicateL m.toNat z = [] := List.eq_nil_of_length_eq_zero (by rw [replicateL_length, hzl]; exact h0)
                simp [execOp, hop, hq, hqc, Instr.makeSlice, run_und T.info hu, asInt, asIntOf, run_info T.info hi, w1, w2, t1, t2, t3, t4, run_askRoom, run_size T.info hsz, h0, hn0, newRow, newObj, Sem.run]
                rw [if_neg (by omega), show (Array.map (fun _ => (default : Value)) (Array.range 0)) = (⟨[]⟩ : Array Value) from by simp]
              · simp [execOp, hop, hq, hqc, Instr.makeSlice, run_und T.info hu, asInt, asIntOf, run_info T.info hi, w1, w2, t1, t2, t3, t4, run_askRoom, run_size T.info hsz, h0, run_zero T.info hz1, newRow, newObj, Sem.run]
                rw [if_neg (by omega), hzs, hr]
            · refine .slice (Mp.up_same ..) (by simp; omega) (by omega) (fun _ => rfl) (Nat.le_refl _) ?_
              simp
              have : (2 * i.size + 1) / 2 = i.size := by omega
              rw [this]; exact Nat.le_refl _
          · exact (H.fail_some h).elim
        | _ => exact (H.fail_some h).elim
      | _ => exact (H.fail_some h).elim

theorem snd_cap (T : TOk P ti sk) {t e : TypeId} {x : Operand} {c : Call} (hop : o.op = .call c) (hc : c.callee = .builtin .cap) (hargs : c.args = #[x]) (ht : c.argTypes = #[t]) (hx : D x = true)
    (hu : und ti t = some (.slice e))
    (h : aop G L env (.cap (opd x)) σ = some (v, σ')) : OpOut P ρ o μ w σ v σ' := by
  have hexec : execOp ρ o = (Builtin.cap_ #[t] o.type #[ρ x] >>= fun v => Pure.pure (Next.value v)) := by
    simp [execOp, hop, resolve, hc, hargs, ht, invoke, builtin]
  simp only [aop] at h
  cases hv : ev G env (opd x) with
  | none => rw [hv] at h; exact (H.fail_some h).elim
  | some xv =>
    rw [hv] at h
    have hr := hρ x hx _ hv
    generalize hq : ρ x = q at hr
    cases hr with
    | slice0 =>
      obtain ⟨rfl, rfl⟩ := H.pure_some h
      exact .pure ok (n := .value (.int .i64 (0 : Nat))) (by rw [hexec]; simp [Builtin.cap_, run_und T.info hu, hq, goInt]) rfl (.int _ _)
    | lost => exact (H.fail_some (σ := σ) h).elim
    | slice e1 e2 e3 e4 e5 e6 =>
      rename_i b oo B lim tag len cap cap'
      simp only at h
      cases hb : Nat.beq (tag % 2) 1 with
      | false => rw [hb] at h; exact (H.fail_some (σ := σ) h).elim
      | true =>
        rw [hb] at h
        obtain ⟨rfl, rfl⟩ := H.pure_some h
        have := e4 (of_beqT hb)
        exact .pure ok (n := .value (.int .i64 cap)) (by rw [hexec]; simp [Builtin.cap_, run_und T.info hu, hq, goInt, this]) rfl (.int _ _)
    | _ => exact (H.fail_some h).elim

theorem snd_minmax {mx : Bool} {c : Call} (hop : o.op = .call c) (hc : c.callee = .builtin (bif mx then .max else .min)) (hok : c.args.toList.all D = true)
    (h : aop G L env (.minmax mx (c.args.toList.map opd)) σ = some (v, σ')) : OpOut P ρ o μ w σ v σ' := by
  simp only [aop] at h
  cases he : evs G env (c.args.toList.map opd) with
  | none => rw [he] at h; exact (H.fail_some h).elim
  | some vs =>
    rw [he] at h
    simp only at h
    cases hs : vs.all scal with
    | false => rw [hs] at h; exact (H.fail_some (σ := σ) h).elim
    | true =>
      rw [hs] at h
      have hr := RelL.of_scal hs (hρ.list hok he)
      cases vs with
      | nil => exact (H.fail_some (σ := σ) h).elim
      | cons a rest =>
        obtain ⟨h0, rfl⟩ := H.opt_some h
        obtain ⟨h1, hsv⟩ := scalOf_some h0
        have hrun := pureSem_run (P := P) h1 w
        refine .pure ok (n := .value v) ?_ rfl (.scal hsv)
        have hargs : (c.args.map ρ).toList = a :: rest := by rw [Array.toList_map]; exact hr
        cases mx with
        | true => simp [execOp, hop, resolve, hc, invoke, builtin, Builtin.max_]; rw [hr]; simp only [cond_true] at hrun; simp [hrun]
        | false => simp [execOp, hop, resolve, hc, invoke, builtin, Builtin.min_]; rw [hr]; simp only [cond_false] at hrun; simp [hrun]
end
end Go.Am

namespace Go.Am
section
variable {P : Program} {ρ : Operand → Value} {o : Oper} {μ : Mp} {w : World} {σ σ' : St} {v : Value} {G : GT} {L : TypeId → Nat → Nat → TypeId → Bool} {env : Env} {D : Operand → Bool}
variable {ti : TypeId → Option TypeInfo} {sk : TypeId → Bool}

inductive OptRel (μ : Mp) : Option Value → Option Value → Prop
  | none : OptRel μ none none
  | some {a b : Value} : Rel μ a b → OptRel μ (some a) (some b)

theorem bound_spec {x x' : Value} {y n : Nat} (h : bound x y = some n) (hr : Rel μ x x') : ∃ k, x' = .int k n ∧ n ≤ y := by
  unfold bound at h
  split at h
  · rename_i k i
    split at h
    · rename_i hb
      simp at h
      refine ⟨k, ?_, by omega⟩
      rw [hr.of_int, ← h]
      congr 1; omega
    · cases h
  · cases h
theorem run_bound {y n : Nat} {k : IntKind} (h : n ≤ y) (c : BoundsCode) (w : World) : (Instr.sliceBound (.int k n) y c).run P w = .ok n w := by
  simp [Instr.sliceBound, asIntOf, h]

theorem run_bounds {isS : Bool} {len cap cap' : Nat} (hcap : cap ≤ cap') {lo hi mx lo' hi' mx' : Option Value} (h1 : OptRel μ lo lo') (h2 : OptRel μ hi hi') (h3 : OptRel μ mx mx') {l hh m : Nat} (h : bounds len cap lo hi mx = some (l, hh, m)) (hlen : len ≤ cap) :
    ∃ m', (∀ w, (Instr.sliceBounds isS len cap' lo' hi' mx').run P w = .ok (l, hh, m') w) ∧ (mx.isSome = true → m' = m) ∧ (mx = none → m' = cap' ∧ m = cap) ∧ l ≤ hh ∧ hh ≤ m ∧ m ≤ cap := by
  unfold bounds at h
  cases h3 with
  | none =>
    simp only at h
    refine ⟨cap', ?_⟩
    cases h2 with
    | none =>
      simp only at h
      cases h1 with
      | none => simp at h; obtain ⟨rfl, rfl, rfl⟩ := h; exact ⟨fun w => by simp [Instr.sliceBounds], by simp, by simp, by omega, hlen, Nat.le_refl _⟩
      | some r =>
        rename_i a b
        simp only at h
        cases hb : bound a len with
        | none => rw [hb] at h; simp at h
        | some q =>
          rw [hb] at h; simp at h; obtain ⟨rfl, rfl, rfl⟩ := h
          obtain ⟨k, rfl, hq⟩ := bound_spec hb r
          exact ⟨fun w => by simp [Instr.sliceBounds, run_bound hq], by simp, by simp, hq, hlen, Nat.le_refl _⟩
    | some r2 =>
      rename_i a2 b2
      simp only at h
      cases hb2 : bound a2 cap with
      | none => rw [hb2] at h; simp at h
      | some q2 =>
        rw [hb2] at h
        obtain ⟨k2, rfl, hq2⟩ := bound_spec hb2 r2
        simp only at h
        cases h1 with
        | none => simp at h; obtain ⟨rfl, rfl, rfl⟩ := h; exact ⟨fun w => by simp [Instr.sliceBounds, run_bound (Nat.le_trans hq2 hcap)], by simp, by simp, by omega, hq2, Nat.le_refl _⟩
        | some r =>
          rename_i a b
          simp only at h
          cases hb : bound a q2 with
          | none => rw [hb] at h; simp at h
          | some q =>
            rw [hb] at h; simp at h; obtain ⟨rfl, rfl, rfl⟩ := h
            obtain ⟨k, rfl, hq⟩ := bound_spec hb r
            exact ⟨fun w => by simp [Instr.sliceBounds, run_bound hq, run_bound (Nat.le_trans hq2 hcap)], by simp, by simp, hq, hq2, Nat.le_refl _⟩
  | some r3 =>
    rename_i a3 b3
    simp only at h
    cases hb3 : bound a3 cap with
    | none => rw [hb3] at h; simp at h
    | some q3 =>
      rw [hb3] at h
      obtain ⟨k3, rfl, hq3⟩ := bound_spec hb3 r3
      simp only at h
      cases h2 with
      | none => simp at h
      | some r2 =>
        rename_i a2 b2
        simp only at h
        cases hb2 : bound a2 q3 with
        | none => rw [hb2] at h; simp at h
        | some q2 =>
          rw [hb2] at h
          obtain ⟨k2, rfl, hq2⟩ := bound_spec hb2 r2
          simp only at h
          cases h1 with
          | none => simp at h; obtain ⟨rfl, rfl, rfl⟩ := h; exact ⟨q3, fun w => by simp [Instr.sliceBounds, run_bound (Nat.le_trans hq3 hcap), run_bound hq2], by simp, by simp, by omega, hq2, hq3⟩
          | some r =>
            rename_i a b
            simp only at h
            cases hb : bound a q2 with
            | none => rw [hb] at h; simp at h
            | some q =>
              rw [hb] at h; simp at h; obtain ⟨rfl, rfl, rfl⟩ := h
              obtain ⟨k, rfl, hq⟩ := bound_spec hb r
              exact ⟨q3, fun w => by simp [Instr.sliceBounds, run_bound (Nat.le_trans hq3 hcap), run_bound hq2, run_bound hq], by simp, by simp, hq, hq2, hq3⟩

theorem OpdRel.opt (hρ : OpdRel D G env μ ρ) {x : Option Operand} {a : Option Value} (hx : ∀ y, x = some y → D y = true) (h : evo G env (x.map opd) = some a) : OptRel μ a (x.map ρ) := by
  cases x with
  | none => simp [evo] at h; subst h; exact .none
  | some y =>
    simp only [Option.map_some, evo] at h
    cases hv : ev G env (opd y) with
    | none => rw [hv] at h; simp at h
    | some u => rw [hv] at h; simp at h; subst h; exact .some (hρ y (hx y rfl) u hv)

variable (hρ : OpdRel D G env μ ρ) (ok : Ok μ w σ)
include hρ ok

theorem slc_open {k : SlcK} {x : Operand} {lo hi mx : Option Operand} (hx : D x = true) (hlo : ∀ y, lo = some y → D y = true) (hhi : ∀ y, hi = some y → D y = true) (hmx : ∀ y, mx = some y → D y = true)
    (h : aop G L env (.slc k (opd x) (lo.map opd) (hi.map opd) (mx.map opd)) σ = some (v, σ')) :
    ∃ xv lv hv mv, sliceA k xv lv hv mv = some v ∧ σ' = σ ∧ (∀ n esz, k = .arr n esz → ∃ b oo c ro ty fl, xv = .pointer (some ⟨b, oo, none⟩) ∧ σ.heap.get b = some (.cells c ro ty fl) ∧ oo + n * esz ≤ c.length ∧ 1 ≤ esz) ∧ Rel μ xv (ρ x) ∧ OptRel μ lv (lo.map ρ) ∧ OptRel μ hv (hi.map ρ) ∧ OptRel μ mv (mx.map ρ) := by
  simp only [aop] at h
  cases e1 : ev G env (opd x) with
  | none => rw [e1] at h; exact (H.fail_some h).elim
  | some xv =>
    cases e2 : evo G env (lo.map opd) with
    | none => rw [e1, e2] at h; exact (H.fail_some h).elim
    | some lv =>
      cases e3 : evo G env (hi.map opd) with
      | none => rw [e1, e2, e3] at h; exact (H.fail_some h).elim
      | some hv =>
        cases e4 : evo G env (mx.map opd) with
        | none => rw [e1, e2, e3, e4] at h; exact (H.fail_some h).elim
        | some mv =>
          rw [e1, e2, e3, e4] at h
          cases k with
          | arr n esz =>
            simp only at h
            have hr := hρ x hx _ e1
            generalize ρ x = q at hr
            have hr' := hr
            cases hr with
            | ptr g1 =>
              obtain ⟨cc, σ1, k1, k2⟩ := H.bind_some h
              obtain ⟨hb, rfl⟩ := getCells_some k1
              cases hc : (Nat.ble (_ + n * esz) cc.1.length && Nat.ble 1 esz) with
              | false => rw [hc] at k2; exact (H.fail_some (σ := σ1) k2).elim
              | true =>
                rw [hc] at k2
                simp only [Bool.and_eq_true] at hc
                obtain ⟨h1, rfl⟩ := H.opt_some k2
                exact ⟨_, lv, hv, mv, h1, rfl, fun n' e' he => by cases he; exact ⟨_, _, _, _, _, _, rfl, hb, of_bleT hc.1, of_bleT hc.2⟩, hr', hρ.opt hlo e2, hρ.opt hhi e3, hρ.opt hmx e4⟩
            | _ => exact (H.fail_some (σ := σ) h).elim
          | str =>
            obtain ⟨h1, rfl⟩ := H.opt_some h
            exact ⟨xv, lv, hv, mv, h1, rfl, fun _ _ he => (by cases he), hρ x hx _ e1, hρ.opt hlo e2, hρ.opt hhi e3, hρ.opt hmx e4⟩
          | slice _ =>
            obtain ⟨h1, rfl⟩ := H.opt_some h
            exact ⟨xv, lv, hv, mv, h1, rfl, fun _ _ he => (by cases he), hρ x hx _ e1, hρ.opt hlo e2, hρ.opt hhi e3, hρ.opt hmx e4⟩

theorem snd_slc_str (T : TOk P ti sk) {t : TypeId} {x : Operand} {lo hi mx : Option Operand} (hop : o.op = .slice t x lo hi mx) (hx : D x = true) (hlo : ∀ y, lo = some y → D y = true) (hhi : ∀ y, hi = some y → D y = true) (hmx : ∀ y, mx = some y → D y = true)
    (hu : und ti t = some .string) (h : aop G L env (.slc .str (opd x) (lo.map opd) (hi.map opd) (mx.map opd)) σ = some (v, σ')) : OpOut P ρ o μ w σ v σ' := by
  obtain ⟨xv, lv, hv, mv, h1, rfl, hk, r1, r2, r3, r4⟩ := slc_open hρ ok hx hlo hhi hmx h
  generalize hq : ρ x = q at r1
  generalize hmn : mx.map ρ = mxr at r4
  cases r1 with
  | string s =>
    cases r4 with
    | some _ => simp [sliceA] at h1
    | none =>
      simp only [sliceA] at h1
      cases hb : bounds s.size s.size lv hv none with
      | none => rw [hb] at h1; simp at h1
      | some p =>
        obtain ⟨l, hh, m⟩ := p
        rw [hb] at h1; simp at h1; subst h1
        obtain ⟨m', g1, _, _, _, _⟩ := run_bounds (P := P) (isS := false) (Nat.le_refl _) r2 r3 .none hb (Nat.le_refl _)
        refine .pure ok (n := .value (.string (s.extract l hh))) ?_ rfl (.string _)
        simp [execOp, hop, hq, Instr.sliceAt, Instr.slice, run_und T.info hu, hmn, g1]
  | _ => simp [sliceA] at h1

theorem snd_slc_slice (T : TOk P ti sk) {t e : TypeId} {s : Nat} {x : Operand} {lo hi mx : Option Operand} (hop : o.op = .slice t x lo hi mx) (hx : D x = true) (hlo : ∀ y, lo = some y → D y = true) (hhi : ∀ y, hi = some y → D y = true) (hmx : ∀ y, mx = some y → D y = true)
    (hu : und ti t = some (.slice e)) (hs : cellsOf? ti e = some s) (h : aop G L env (.slc (.slice s) (opd x) (lo.map opd) (hi.map opd) (mx.map opd)) σ = some (v, σ')) : OpOut P ρ o μ w σ v σ' := by
  obtain ⟨xv, lv, hv, mv, h1, rfl, hk, r1, r2, r3, r4⟩ := slc_open hρ ok hx hlo hhi hmx h
  generalize hq : ρ x = q at r1
  have hexec : ∀ a len cap l hh m', q = .slice a len cap → (∀ w, (Instr.sliceBounds true len cap (lo.map ρ) (hi.map ρ) (mx.map ρ)).run P w = .ok (l, hh, m') w) →
      (execOp ρ o).run P w = .ok (.value (.slice (if m' = l then a else a.map (·.add (l * s))) (hh - l) (m' - l))) w := by
    intro a len cap l hh m' hqa hb
    simp [execOp, hop, hq, hqa, Instr.sliceAt, Instr.slice, run_und T.info hu, hb, run_size T.info hs]
  cases r1 with
  | slice0 =>
    simp only [sliceA] at h1
    cases hb : bounds 0 0 lv hv mv with
    | none => rw [hb] at h1; simp at h1
    | some p =>
      obtain ⟨l, hh, m⟩ := p
      rw [hb] at h1; simp at h1; subst h1
      obtain ⟨m', g1, g2, g3, g4, g5, g6⟩ := run_bounds (P := P) (isS := true) (Nat.le_refl _) r2 r3 r4 hb (Nat.le_refl _)
      have hm' : m' = m := by
        cases hmv : mv with
        | none => have := g3 hmv; omega
        | some _ => exact g2 (by rw [hmv]; rfl)
      have := hexec none 0 0 l hh m' rfl g1
      have e1 : hh - l = 0 := by omega
      have e2 : m - l = 0 := by omega
      refine .pure ok this rfl ?_
      rw [hm', e1, e2]
      simp
      exact .slice0
  | lost =>
    rename_i b oo c a
    cases hmv : mv with
    | some _ => rw [hmv] at h1; simp only [sliceA] at h1; cases hb : bounds 0 0 lv hv none <;> simp [hb] at h1
    | none =>
      rw [hmv] at h1 r4
      simp only [sliceA] at h1
      cases hb : bounds 0 0 lv hv none with
      | none => simp [hb] at h1
      | some p =>
        obtain ⟨l, hh, m⟩ := p
        simp [hb] at h1; subst h1
        obtain ⟨m', g1, g2, g3, g4, g5, g6⟩ := run_bounds (P := P) (isS := true) (Nat.zero_le c) r2 r3 r4 hb (Nat.le_refl _)
        have := hexec (some a) 0 c l hh m' rfl g1
        have e0 : l = 0 := by omega
        have e1 : hh = 0 := by omega
        refine .pure ok this rfl ?_
        subst e0; subst e1
        have : (if m' = 0 then some a else Option.map (fun x => x.add (0 * s)) (some a)) = some a := by split <;> simp [Addr.add]
        rw [this]
        exact .lost
  | slice e1 e2 e3 e4 e5 e6 =>
    rename_i b oo B lim tag len cap cap'
    simp only [sliceA, beqF (show tag ≠ 0 by omega), cond_false] at h1
    cases ht : Nat.beq (tag / 2) s with
    | false => rw [ht] at h1; simp at h1
    | true =>
      rw [ht] at h1
      simp only [cond_true] at h1
      have hts := of_beqT ht
      cases hb : bounds len cap lv hv mv with
      | none => rw [hb] at h1; simp at h1
      | some p =>
        obtain ⟨l, hh, m⟩ := p
        rw [hb] at h1
        simp only at h1
        obtain ⟨m', g1, g2, g3, g4, g5, g6⟩ := run_bounds (P := P) (isS := true) e5 r2 r3 r4 hb e3
        have hr := hexec _ len cap' l hh m' rfl g1
        have hs2 : 1 ≤ s := by omega
        -- the concrete m
        have hmm : m ≤ m' ∧ m' ≤ cap' ∧ ((Nat.beq (tag % 2) 1 || mv.isSome) = true → m' = m) := by
          cases hmv : mv with
          | none =>
            obtain ⟨a, b⟩ := g3 hmv
            refine ⟨by omega, by omega, fun h => ?_⟩
            simp at h
            have := e4 (h); omega
          | some _ =>
            have := g2 (by rw [hmv]; rfl)
            exact ⟨by omega, by omega, fun _ => this⟩
        obtain ⟨q1, q2, q3⟩ := hmm
        cases hml : Nat.beq m l with
        | true =>
          have hml' := of_beqT hml
          rw [hml] at h1
          simp only [cond_true] at h1
          cases hex : (Nat.beq (tag % 2) 1 || mv.isSome) with
          | true =>
            rw [hex] at h1
            simp at h1; subst h1
            have := q3 hex
            refine .pure ok hr rfl ?_
            rw [if_pos (by omega)]
            have z1 : hh - l = 0 := by omega
            have z2 : m - l = 0 := by omega
            have z3 : m' - l = 0 := by omega
            rw [z1, z2, z3]
            refine .slice e1 (by simp; omega) (Nat.le_refl _) (fun _ => rfl) (Nat.le_refl _) ?_
            simp
            have := Nat.le_of_add_right_le e6
            exact this
          | false =>
            rw [hex] at h1
            simp at h1; subst h1
            refine .pure ok hr rfl ?_
            have z1 : hh - l = 0 := by omega
            rw [z1]
            split
            · exact .lost
            · simp only [Option.map_some]; exact .lost
        | false =>
          have hml' := of_beqF hml
          rw [hml] at h1
          simp at h1; subst h1
          refine .pure ok hr rfl ?_
          rw [if_neg (by omega)]
          simp only [Option.map_some, addr_add]
          have htag : ∀ ex : Bool, (tagOf s ex) = some (bif ex then 2 * s + 1 else 2 * s) := fun _ => rfl
          rw [htag]
          refine .slice e1 (by cases (Nat.beq (tag % 2) 1 || mv.isSome) <;> simp <;> omega) (by omega) (fun hodd => ?_) (by omega) ?_
          · have hex : (Nat.beq (tag % 2) 1 || mv.isSome) = true := by
              cases hex : (Nat.beq (tag % 2) 1 || mv.isSome) with
              | true => rfl
              | false => rw [hex] at hodd; simp at hodd
            rw [q3 hex]
          · have hdiv : (bif (Nat.beq (tag % 2) 1 || mv.isSome) then 2 * s + 1 else 2 * s) / 2 = s := by cases (Nat.beq (tag % 2) 1 || mv.isSome) <;> simp <;> omega
            rw [hdiv]
            rw [hts] at e6
            have : l * s + (m' - l) * s ≤ cap' * s := by rw [← Nat.add_mul]; exact Nat.mul_le_mul_right _ (by omega)
            omega
  | _ => simp [sliceA] at h1

theorem snd_slc_arr (T : TOk P ti sk) {t at_ e : TypeId} {n s : Nat} {x : Operand} {lo hi mx : Option Operand} (hop : o.op = .slice t x lo hi mx) (hx : D x = true) (hlo : ∀ y, lo = some y → D y = true) (hhi : ∀ y, hi = some y → D y = true) (hmx : ∀ y, mx = some y → D y = true)
    (hu : und ti t = some (.array n e) ∨ (und ti t = some (.pointer at_) ∧ und ti at_ = some (.array n e))) (hs : cellsOf? ti e = some s) (h : aop G L env (.slc (.arr n s) (opd x) (lo.map opd) (hi.map opd) (mx.map opd)) σ = some (v, σ')) : OpOut P ρ o μ w σ v σ' := by
  obtain ⟨xv, lv, hv, mv, h1, rfl, hk, r1, r2, r3, r4⟩ := slc_open hρ ok hx hlo hhi hmx h
  generalize hq : ρ x = q at r1
  cases r1 with
  | ptr e1 =>
    rename_i b oo B lim
    obtain ⟨b', oo', c, ro, ty, fl, hx', hb, hle, hs1⟩ := hk n s rfl
    cases hx'
    obtain ⟨cs, fr, g1, g2, g3, g4, g5, g6⟩ := ok.sim.cells hb e1
    simp only [sliceA] at h1
    cases hbd : bounds n n lv hv mv with
    | none => rw [hbd] at h1; simp at h1
    | some p =>
      obtain ⟨l, hh, m⟩ := p
      rw [hbd] at h1
      simp only at h1
      obtain ⟨m', k1, k2, k3, k4, k5, k6⟩ := run_bounds (P := P) (isS := false) (Nat.le_refl _) r2 r3 r4 hbd (Nat.le_refl _)
      have hm' : m' = m := by
        cases hmv : mv with
        | none => have := k3 hmv; omega
        | some _ => exact k2 (by rw [hmv]; rfl)
      subst hm'
      have hr : (execOp ρ o).run P w = .ok (.value (.slice (some (if m' = l then ⟨B, oo, none⟩ else ⟨B, oo + l * s, none⟩)) (hh - l) (m' - l))) w := by
        rcases hu with hu | ⟨hu, hu2⟩
        · simp [execOp, hop, hq, Instr.sliceAt, Instr.sureAddr, run_und T.info hu, k1, run_size T.info hs, addr_add]
        · simp [execOp, hop, hq, Instr.sliceAt, Instr.slice, asAddr, run_und T.info hu, run_und T.info hu2, k1, run_size T.info hs, addr_add]
      have hms : l * s + (m' - l) * s ≤ n * s := by rw [← Nat.add_mul]; exact Nat.mul_le_mul_right _ (by omega)
      have hdiv : (2 * s + 1) / 2 = s := by omega
      cases hml : Nat.beq m' l with
      | true =>
        rw [hml] at h1; simp at h1; subst h1
        have := of_beqT hml
        refine .pure ok hr rfl ?_
        rw [if_pos this]
        refine .slice e1 (by simp; omega) (by omega) (fun _ => rfl) (Nat.le_refl _) ?_
        simp only [cond_true]; rw [hdiv]; omega
      | false =>
        rw [hml] at h1; simp at h1; subst h1
        have := of_beqF hml
        refine .pure ok hr rfl ?_
        rw [if_neg this]
        refine .slice e1 (by simp; omega) (by omega) (fun _ => rfl) (Nat.le_refl _) ?_
        simp only [cond_true]; rw [hdiv]; omega
  | _ => simp [sliceA] at h1
end
end Go.Am

namespace Go.Am

theorem Step.kill {μ : Mp} {w : World} {σ : St} (ok : Ok μ w σ) (b : Nat) (x0 : Blk) (hb : σ.heap.get b = some x0) :
    Step (fun c => c = b) μ w σ μ w { heap := σ.heap.set b none, next := σ.next, lo := min b σ.lo } := by
  have sub : ∀ c x, (σ.heap.set b none).get c = some x → c ≠ b ∧ σ.heap.get c = some x := by
    intro c x h
    rw [T.get_set] at h
    by_cases e : c = b
    · rw [if_pos e] at h; cases h
    · rw [if_neg e] at h; exact ⟨e, h⟩
  refine ⟨ok.forget (fun c x h => (sub c x h).2) _, Nat.le_refl _, Nat.le_refl _, by simp; omega, fun c h => by subst h; simp; omega, fun _ _ => rfl, fun c x _ h => ⟨x, (sub c x h).2⟩, fun _ _ _ => rfl, fun c B l hc h => ?_, .refl _⟩
  rw [ok.free c hc] at h; cases h

/-- a block goes on under another number -/
theorem Step.reuse {μ : Mp} {w : World} {σ : St} (ok : Ok μ w σ) (b B lim lim' : Nat) (x0 x : Blk) (w' : World) (hb : σ.heap.get b = some x0) (hμ : μ b = some (B, lim))
    (hsize : w'.heap.size = w.heap.size) (hrest : ∀ B', B' ≠ B → w'.heap[B']? = w.heap[B']?) (hx : BlkRel (μ.up σ.next B lim') x lim' w'.heap[B]?) (ho : SameOut w w') :
    Step (fun c => c = b) μ w σ (μ.up σ.next B lim') w' { heap := (σ.heap.set b none).set σ.next (some x), next := σ.next + 1, lo := min b σ.lo } := by
  have hnone : μ σ.next = none := ok.free _ (Nat.le_refl _)
  have hext := Mp.up_ext (B := B) (lim := lim') hnone
  have hlt := ok.wf b x0 hb
  have g : ∀ c y, ((σ.heap.set b none).set σ.next (some x)).get c = some y → (c = σ.next ∧ y = x) ∨ (c ≠ σ.next ∧ c ≠ b ∧ σ.heap.get c = some y) := by
    intro c y h
    rw [T.get_set] at h
    by_cases e : c = σ.next
    · rw [if_pos e] at h; cases h; exact .inl ⟨e, rfl⟩
    · rw [if_neg e, T.get_set] at h
      by_cases e' : c = b
      · rw [if_pos e'] at h; cases h
      · rw [if_neg e'] at h; exact .inr ⟨e, e', h⟩
  have hB : ∀ c y C l, σ.heap.get c = some y → c ≠ b → μ c = some (C, l) → C ≠ B := by
    intro c y C l hc hne hμ' e
    subst e
    exact hne (ok.sim.inj c b y x0 C l lim hc hb hμ' hμ)
  refine ⟨⟨⟨?_, ?_⟩, ?_, ?_⟩, by simp, by rw [hsize]; exact Nat.le_refl _, by simp; omega, fun c h => by subst h; simp; omega, ?_, ?_, ?_, ?_, ho⟩
  · intro c y hc
    rcases g c y hc with ⟨rfl, rfl⟩ | ⟨e1, e2, h⟩
    · exact ⟨B, lim', Mp.up_same .., hx⟩
    · obtain ⟨C, l, h1, h2⟩ := ok.sim.live c y h
      refine ⟨C, l, hext _ _ h1, ?_⟩
      rw [hrest C (hB c y C l h e2 h1)]
      exact h2.mono hext
  · intro c c' y y' C l l' hc hc' h1 h2
    rcases g c y hc with ⟨rfl, rfl⟩ | ⟨e1, e2, h⟩
    · rcases g c' y' hc' with ⟨rfl, rfl⟩ | ⟨e1', e2', h'⟩
      · rfl
      · rw [Mp.up_same] at h1; cases h1
        simp only [Mp.up, if_neg e1'] at h2
        exact absurd rfl (hB c' y' _ l' h' e2' h2)
    · simp only [Mp.up, if_neg e1] at h1
      rcases g c' y' hc' with ⟨rfl, rfl⟩ | ⟨e1', e2', h'⟩
      · rw [Mp.up_same] at h2; cases h2
        exact absurd rfl (hB c y _ l h e2 h1)
      · simp only [Mp.up, if_neg e1'] at h2
        exact ok.sim.inj c c' y y' C l l' h h' h1 h2
  · intro c y hc
    rcases g c y hc with ⟨rfl, _⟩ | ⟨_, _, h⟩
    · exact Nat.lt_succ_self _
    · exact Nat.lt_succ_of_lt (ok.wf c y h)
  · intro c hc
    simp only at hc
    simp only [Mp.up, if_neg (show ¬ c = σ.next by omega)]
    exact ok.free c (by omega)
  · intro c hc
    simp only [Mp.up, if_neg (show ¬ c = σ.next by omega)]
  · intro c y hc h
    rcases g c y h with ⟨rfl, _⟩ | ⟨_, _, h⟩
    · omega
    · exact ⟨y, h⟩
  · intro C hC hm
    exact hrest C fun e => by subst e; exact hm b x0 lim hb hμ rfl
  · intro c C l hc h
    by_cases e : c = σ.next
    · simp only [Mp.up, if_pos e] at h; cases h
      exact .inr ⟨b, x0, lim, hb, hμ, rfl⟩
    · simp only [Mp.up, if_neg e] at h; rw [ok.free c hc] at h; cases h

section
variable {P : Program}

/-- what is appended -/
def Src (P : Program) (size bytes : Nat) (z : List Value) (t' : TypeId) (x : Value) (n : Nat) (new : List Value) (w : World) : Prop :=
  (∃ d, P.underlying t' = some d ∧ (∀ k, d ≠ .int k) ∧ (Builtin.lenOf x).run P w = .ok n w ∧ ∀ w1 : World, w1.heap = w.heap → (Builtin.firstCells size n x).run P w1 = .ok new.toArray w1) ∨
  (∃ k k' l, P.underlying t' = some (.int k) ∧ x = .int k' l ∧ 0 ≤ l ∧ l ≤ 1099511627776 ∧ l * bytes ≤ 1099511627776 ∧ n = l.toNat ∧ new = replicateL n z)

theorem run_app_in (w w' : World) (t t' ty e : TypeId) (i : TypeInfo) (zv : Value) (hu : P.underlying t = some (.slice e)) (hi : P.info? e = some i) (hz : i.zero = some zv) (hzs : zv.cells.size = i.size)
    (base : Option Addr) (x : Value) (n sLen sCap : Nat) (new : List Value) (hs : Src P i.size i.bytes zv.cells.toList t' x n new w) (hle : sLen + n ≤ sCap)
    (hst : (match base with | some a => storeCells (a.add (sLen * i.size)) new | none => pure ()).run P w = .ok () w') :
    (Builtin.append_ #[t, t'] ty #[.slice base sLen sCap, x]).run P w = .ok (.slice base (sLen + n) sCap) w' := by
  rcases hs with ⟨d, h1, h2, h3, h4⟩ | ⟨k, k', l, h1, h2, h3, h3', h4, rfl, rfl⟩
  · have h5 := h4 w rfl
    have hm : (match d with | .int _ => true | _ => false) = false := by cases d <;> first | rfl | exact absurd rfl (h2 _)
    cases base with
    | none => 
      simp only [Sem.run_pure] at hst
      cases hst
      simp [Builtin.append_, run_underlying hu, run_underlying h1, sizeOf, typeInfo, hi, hm, h3, hle, h5]
    | some a => simp [Builtin.append_, run_underlying hu, run_underlying h1, sizeOf, typeInfo, hi, hm, h3, hle, h5, hst]
  · subst h2
    have hw : IntKind.i64.wrap l = l := by simp [IntKind.wrap, IntKind.signed, IntKind.bits, Int.bmod]; omega
    have t1 : ¬ (l < 0) := by omega
    have t2 : ¬ (281474976710656 < l * (i.bytes : Int)) := by omega
    have hr := range_zero zv.cells l.toNat
    rw [hzs] at hr
    by_cases h0 : l.toNat * i.size = 0
    · have hn0 : replicateL l.toNat zv.cells.toList = [] := List.eq_nil_of_length_eq_zero (by rw [replicateL_length]; simp [hzs]; simpa using h0)
      rw [hn0] at hst
      cases base with
      | none => 
        simp only [Sem.run_pure] at hst; cases hst
        simp [Builtin.append_, run_underlying hu, run_underlying h1, sizeOf, typeInfo, hi, asInt, asIntOf, hw, t1, t2, hle, h0]
      | some a =>
        simp [Builtin.append_, run_underlying hu, run_underlying h1, sizeOf, typeInfo, hi, asInt, asIntOf, hw, t1, t2, hle, h0, hst]
    · cases base with
      | none => 
        simp only [Sem.run_pure] at hst; cases hst
        simp [Builtin.append_, run_underlying hu, run_underlying h1, sizeOf, typeInfo, hi, asInt, asIntOf, hw, t1, t2, hle, h0, zeroValue, hz]
      | some a =>
        simp [Builtin.append_, run_underlying hu, run_underlying h1, sizeOf, typeInfo, hi, asInt, asIntOf, hw, t1, t2, hle, h0, zeroValue, hz, Builtin.zeroCells, hzs, hr, hst]

theorem run_app_grow (w : World) (t t' ty e : TypeId) (i : TypeInfo) (zv : Value) (hu : P.underlying t = some (.slice e)) (hi : P.info? e = some i) (hz : i.zero = some zv) (hzs : zv.cells.size = i.size)
    (base : Option Addr) (x : Value) (n sLen sCap : Nat) (new old : List Value) (hs : Src P i.size i.bytes zv.cells.toList t' x n new w) (hlt : sCap < sLen + n)
    (hold : ∀ w1 : World, w1.heap = w.heap → (Builtin.firstCells i.size sLen (.slice base sLen sCap)).run P w1 = .ok old.toArray w1)
    (hb1 : (sLen + n) * i.bytes + (sLen + n) ≤ 1099511627776) :
    ∃ c w' rest, (Builtin.append_ #[t, t'] ty #[.slice base sLen sCap, x]).run P w = .ok (.slice (some ⟨w.heap.size, 0, none⟩) (sLen + n) c) w' ∧ sLen + n ≤ c ∧
      w'.heap = w.heap.push (.cells (old ++ new ++ rest).toArray e) ∧ rest.length = (c - (sLen + n)) * i.size ∧ SameOut w w' := by
  have h63 : ¬ (9223372036854775807 < ((sLen : Int) + (n : Int))) := by omega
  have hcap : Builtin.nextslicecap (sLen + n) sCap * i.bytes ≤ 281474976710656 := by
    have h1 := nextcap_le (sLen + n) sCap hlt
    have h2 : Builtin.nextslicecap (sLen + n) sCap * i.bytes ≤ 3 * (sLen + n) * i.bytes := Nat.mul_le_mul_right _ h1
    rw [Nat.mul_assoc] at h2
    omega
  have h48 : ¬ (281474976710656 < Builtin.nextslicecap (sLen + n) sCap * i.bytes) := by omega
  have hgrow := grownCap_ge w (sLen + n) sCap e
  have hng : ¬ (sLen + n ≤ sCap) := by omega
  refine ⟨grownCap w (sLen + n) sCap e, w.drew.alloc (.cells (old ++ new ++ (Builtin.zeroCells zv.cells (grownCap w (sLen + n) sCap e - (sLen + n))).toList).toArray e), (Builtin.zeroCells zv.cells (grownCap w (sLen + n) sCap e - (sLen + n))).toList, ?_, hgrow, ?_, ?_, ⟨rfl, rfl⟩⟩
  · have hwd : w.drew.heap = w.heap := rfl
    have ho := hold w.drew rfl
    rcases hs with ⟨d, h1, h2, h3, h4⟩ | ⟨k, k', l, h1, h2, h3, h3', h4, rfl, rfl⟩
    · have h5 := h4 w.drew rfl
      have hm : (match d with | .int _ => true | _ => false) = false := by cases d <;> first | rfl | exact absurd rfl (h2 _)
      simp [Builtin.append_, run_underlying hu, run_underlying h1, sizeOf, typeInfo, zeroValue, hi, hz, hm, h3, hng, h63, h48, Question.forced, ho, h5, newRow, grownCap, run_askRoom]
      congr 2; apply Array.ext'; simp
    · subst h2
      have hw : IntKind.i64.wrap l = l := by simp [IntKind.wrap, IntKind.signed, IntKind.bits, Int.bmod]; omega
      have t1 : ¬ (l < 0) := by omega
      have t2 : ¬ (281474976710656 < l * (i.bytes : Int)) := by omega
      have hr := range_zero zv.cells l.toNat
      rw [hzs] at hr
      have h63 : ¬ (9223372036854775807 < ((sLen : Int) + max l 0)) := by omega
      by_cases h0 : l.toNat * i.size = 0
      · have hn0 : replicateL l.toNat zv.cells.toList = [] := List.eq_nil_of_length_eq_zero (by rw [replicateL_length]; simp [hzs]; simpa using h0)
        rw [hn0]
        simp [Builtin.append_, run_underlying hu, run_underlying h1, sizeOf, typeInfo, zeroValue, hi, hz, asInt, asIntOf, hw, t1, t2, h0, hng, h63, h48, Question.forced, ho, newRow, grownCap, run_askRoom]
        congr 2; apply Array.ext'; simp
      · simp [Builtin.append_, run_underlying hu, run_underlying h1, sizeOf, typeInfo, zeroValue, hi, hz, asInt, asIntOf, hw, t1, t2, h0, hng, h63, h48, Question.forced, ho, newRow, grownCap, run_askRoom, Builtin.zeroCells, hzs, hr]
        congr 2; apply Array.ext'; simp
  · simp; rfl
  · simp [Builtin.zeroCells, hzs]

variable {ρ : Operand → Value} {o : Oper} {μ : Mp} {w : World} {σ σ' : St} {v : Value} {G : GT} {L : TypeId → Nat → Nat → TypeId → Bool} {env : Env} {D : Operand → Bool}
variable {ti : TypeId → Option TypeInfo} {sk : TypeId → Bool}

theorem bytes_of_string (s : ByteArray) (n : Nat) : (s.data.map fun b => Value.int .u8 b.toNat) = (s.data.toList.map fun b => Value.int .u8 b.toNat).toArray := by
  apply Array.ext'; simp
theorem extract_size (s : ByteArray) : s.extract 0 s.size = s := by
  have := ByteArray.extract_zero_size (b := s)
  first | exact this | simp

theorem run_reads_all {h : T Blk} (s : Sim μ w h) {b ro o n : Nat} {c r : List Value} {ty : TypeId} {fl : Nat} (hb : h.get b = some (.cells c ro ty fl)) {B lim : Nat} (hμ : μ b = some (B, lim)) (ht : take? c o n = some r) :
    ∃ r' : List Value, RelL μ r r' ∧ ∀ w1 : World, w1.heap = w.heap → (loadCells ⟨B, o, none⟩ n).run P w1 = .ok r'.toArray w1 := by
  obtain ⟨cs, fr, h1, h2, h3, h4, h5, h6⟩ := s.cells hb hμ
  obtain ⟨r', g1, g2⟩ := run_reads (P := P) s hb hμ ht
  obtain ⟨hl, rfl⟩ := take?_spec ht
  have hlen' : ((cs.toList.drop o).take n).length = n := by simp; omega
  have key : ∀ w1 : World, w1.heap = w.heap → (loadCells ⟨B, o, none⟩ n).run P w1 = .ok ((cs.toList.drop o).take n).toArray w1 := by
    intro w1 hw
    have := run_loadCells_list (P := P) w1 ⟨B, o, none⟩ ((cs.toList.drop o).take n) (fun j v hj => by
      rw [addr_add]
      simp only [World.cell?, hw, h1]
      rw [List.getElem?_take] at hj
      split at hj
      · simpa using hj
      · cases hj)
    rwa [hlen'] at this
  have e := key w rfl
  rw [g1] at e
  injection e with e _
  have e : r' = (cs.toList.drop o).take n := by simpa using e
  exact ⟨r', g2, fun w1 hw => by rw [key w1 hw, e]⟩

/-- what is read from a slice or a string -/
theorem run_src (ok : Ok μ w σ) {s : Nat} {x x' : Value} {n : Nat} {new : List Value} (h : srcOf s x σ = some ((n, new), σ')) (hx : Rel μ x x') :
    σ' = σ ∧ (Builtin.lenOf x').run P w = .ok n w ∧ new.length = n * s ∧ ∃ new', RelL μ new new' ∧ (∀ w1 : World, w1.heap = w.heap → (Builtin.firstCells s n x').run P w1 = .ok new'.toArray w1) := by
  cases hx with
  | slice0 =>
    obtain ⟨e, rfl⟩ := H.pure_some h
    cases e
    exact ⟨rfl, rfl, by simp, [], .nil, fun w1 _ => by simp [Builtin.firstCells]⟩
  | lost =>
    obtain ⟨e, rfl⟩ := H.pure_some h
    cases e
    exact ⟨rfl, rfl, by simp, [], .nil, fun w1 _ => by simp [Builtin.firstCells, loadCells, loadCellsFrom]⟩
  | slice e1 e2 e3 e4 e5 e6 =>
    rename_i b oo B lim tag len cap cap'
    simp only [srcOf] at h
    cases h0 : Nat.beq len 0 with
    | true =>
      rw [h0] at h
      have := of_beqT h0
      subst this
      obtain ⟨e, rfl⟩ := H.pure_some h
      cases e
      exact ⟨rfl, rfl, by simp, [], .nil, fun w1 _ => by simp [Builtin.firstCells, loadCells, loadCellsFrom]⟩
    | false =>
      rw [h0] at h
      cases ht : Nat.beq (tag / 2) s with
      | false => rw [ht] at h; exact (H.fail_some (σ := σ) h).elim
      | true =>
        rw [ht] at h
        simp only [cond_true, cond_false] at h
        obtain ⟨c, σ1, k1, k2⟩ := H.bind_some h
        obtain ⟨c0, ro, ty, fl, hb, hk, rfl⟩ := readCells_some k1
        obtain ⟨e, rfl⟩ := H.pure_some k2
        cases e
        refine ⟨rfl, rfl, by obtain ⟨a, b⟩ := take?_spec hk; rw [b, List.length_take, List.length_drop]; (try simp only at a); omega, ?_⟩
        obtain ⟨r', g2, g1⟩ := run_reads_all (P := P) ok.sim hb e1 hk
        exact ⟨r', g2, fun w1 hw => by simpa [Builtin.firstCells] using g1 w1 hw⟩
  | string t =>
    simp only [srcOf] at h
    cases hs : Nat.beq s 1 with
    | false => rw [hs] at h; exact (H.fail_some (σ := σ) h).elim
    | true =>
      rw [hs] at h
      obtain ⟨e, rfl⟩ := H.pure_some h
      cases e
      refine ⟨rfl, rfl, by have := of_beqT hs; subst this; simp, _, RelL.closed ?_, fun w1 _ => ?_⟩
      · rw [List.all_eq_true]; intro y hy
        obtain ⟨z, _, rfl⟩ := List.mem_map.mp hy
        rfl
      · simp only [Builtin.firstCells, extract_size, bytes_of_string t t.size]; rfl
  | _ => exact (H.fail_some (σ := σ) h).elim

def AppOut (P : Program) (t t' ty : TypeId) (s' x' : Value) (μ : Mp) (w : World) (σ : St) (v : Value) (σ' : St) : Prop :=
  ∃ v' w' μ' M, (Builtin.append_ #[t, t'] ty #[s', x']).run P w = .ok v' w' ∧ Step M μ w σ μ' w' σ' ∧ Rel μ' v v' ∧ ∀ b, M b → σ'.lo = min b σ.lo

/-- a new row -/
theorem AppOut.grow (ok : Ok μ w σ) {t t' ty e : TypeId} {i : TypeInfo} {zv : Value} {M : Nat → Prop} {σ0 : St} (st : Step M μ w σ0 μ w σ) (hM : ∀ b, M b → σ.lo = min b σ0.lo) (ok0 : Ok μ w σ0) (hu : P.underlying t = some (.slice e)) (hi : P.info? e = some i) (hz : i.zero = some zv) (hzs : zv.cells.size = i.size) (hs1 : 1 ≤ i.size)
    {base : Option Addr} {x' : Value} {n sLen sCap ro fl : Nat} {old old' new new' : List Value} (hs : Src P i.size i.bytes zv.cells.toList t' x' n new' w) (hlt : sCap < sLen + n)
    (hold : ∀ w1 : World, w1.heap = w.heap → (Builtin.firstCells i.size sLen (.slice base sLen sCap)).run P w1 = .ok old'.toArray w1)
    (hb1 : (sLen + n) * i.bytes + (sLen + n) ≤ 1099511627776) (ro' : RelL μ old old') (rn : RelL μ new new') (lo : old.length = sLen * i.size) (ln : new.length = n * i.size) (hfl : 1 ≤ fl) :
    AppOut P t t' ty (.slice base sLen sCap) x' μ w σ0 (.slice (some ⟨σ.next, 0, tagOf i.size false⟩) (sLen + n) (sLen + n)) { heap := σ.heap.set σ.next (some (.cells (old ++ new) ro e fl)), next := σ.next + 1, lo := σ.lo } := by
  obtain ⟨c, w', rest, h1, h2, h3, h4, h5⟩ := run_app_grow w t t' ty e i zv hu hi hz hzs base x' n sLen sCap new' old' hs hlt hold hb1
  have e1 := ro'.length
  have e2 := rn.length
  have hcl : (old' ++ new' ++ rest).length = c * i.size := by
    simp only [List.length_append]
    rw [← e1, ← e2, lo, ln, h4, ← Nat.add_mul, ← Nat.add_mul]; congr 1; omega
  have hnone : μ σ.next = none := ok.free _ (Nat.le_refl _)
  have hext := Mp.up_ext (B := w.heap.size) (lim := c * i.size) hnone
  have st2 := Step.newBlk ok (.cells (old ++ new) ro e fl) (.cells (old' ++ new' ++ rest).toArray e) (c * i.size) w' h3 (by
    refine ⟨(old' ++ new' ++ rest).toArray, (0, 0), rfl, ?_, ?_, fun e => by omega, fun j u hu => ?_, ⟨fun j _ _ => by simp, fun _ => ⟨0, Nat.zero_le _, rfl⟩⟩⟩
    · simp only [List.length_append]; rw [lo, ln, ← Nat.add_mul]; exact Nat.mul_le_mul_right _ h2
    · rw [← hcl]; simp
    · obtain ⟨y, hy, hxy⟩ := (RelL.append ro' rn).get hu
      refine ⟨y, ?_, hxy.mono hext⟩
      have hlt : j < (old' ++ new').length := (List.getElem?_eq_some_iff.mp hy).1
      have : (old' ++ new' ++ rest)[j]? = some y := by rw [List.getElem?_append_left hlt]; exact hy
      simpa using this) h5
  refine ⟨_, w', _, _, h1, Step.trans ok0 st st2, .slice (Mp.up_same ..) (by simp; omega) (Nat.le_refl _) (fun h => by simp at h) h2 ?_, fun b h => h.elim (hM b) fun h => h.elim⟩
  simp

theorem appendC_sound (ok : Ok μ w σ) {t t' ty e : TypeId} {i : TypeInfo} {zv : Value} (hu : P.underlying t = some (.slice e)) (hi : P.info? e = some i) (hz : i.zero = some zv) (hzs : zv.cells.size = i.size) (hs1 : 1 ≤ i.size)
    {s s' x' : Value} {n : Nat} {new new' : List Value} (hs : Src P i.size i.bytes zv.cells.toList t' x' n new' w) (rn : RelL μ new new') (ln : new.length = n * i.size) (rs : Rel μ s s')
    (h : appendC e i.size i.bytes s n new σ = some (v, σ')) : AppOut P t t' ty s' x' μ w σ v σ' := by
  have hdiv : 2 * i.size / 2 = i.size := by omega
  cases rs with
  | slice0 =>
    simp only [appendC] at h
    cases hr : Nat.ble (0 + n) 0 with
    | true =>
      have hn : n = 0 := by have := of_bleT hr; omega
      subst hn
      rw [hr] at h
      obtain ⟨rfl, rfl⟩ := H.pure_some h
      refine ⟨_, w, μ, _, run_app_in w w t t' ty e i zv hu hi hz hzs none x' 0 0 0 new' hs (by omega) rfl, Step.refl ok, .slice0, fun _ h => h.elim⟩
    | false =>
      have hn := of_bleF hr
      rw [hr] at h
      cases hb : (Nat.ble ((0 + n) * i.bytes + (0 + n)) 1099511627776 && Nat.beq 0 0) with
      | false => rw [hb] at h; exact (H.fail_some (σ := σ) h).elim
      | true =>
        rw [hb] at h
        simp only [Bool.and_eq_true] at hb
        obtain ⟨b, σ2, k3, k4⟩ := H.bind_some h
        obtain ⟨rfl, rfl⟩ := newBlk_some k3
        obtain ⟨rfl, rfl⟩ := H.pure_some k4
        have := AppOut.grow (P := P) ok (ty := ty) (base := none) (old := []) (old' := []) (ro := 0) (fl := 1) (Step.refl ok) (fun _ h => h.elim) ok hu hi hz hzs hs1 hs (by omega) (fun w1 _ => by simp [Builtin.firstCells]) (of_bleT hb.1) .nil rn (by simp) ln (Nat.le_refl _)
        simpa using this
  | lost => simp [appendC] at h; exact (H.fail_some (σ := σ) h).elim
  | slice e1 e2 e3 e4 e5 e6 =>
    rename_i b oo B lim tag len cap cap'
    simp only [appendC] at h
    cases ht : (Nat.beq (tag / 2) i.size && !Nat.beq tag 0) with
    | false => rw [ht] at h; exact (H.fail_some (σ := σ) h).elim
    | true =>
      rw [ht] at h
      simp only [Bool.and_eq_true] at ht
      have hts := of_beqT ht.1
      rw [hts] at e6
      cases hr : Nat.ble (len + n) cap with
      | true =>
        rw [hr] at h
        have hle := of_bleT hr
        obtain ⟨u, σ2, k3, k4⟩ := H.bind_some h
        obtain ⟨rfl, rfl⟩ := H.pure_some k4
        obtain ⟨w', g1, g2, g3⟩ := run_writes (P := P) ok k3 e1 rn
        refine ⟨_, w', μ, _, run_app_in w w' t t' ty e i zv hu hi hz hzs (some ⟨B, oo, none⟩) x' n len cap' new' hs (by omega) ?_, g2, .slice e1 e2 hle e4 e5 (by rw [hts]; exact e6), g3⟩
        simp only [addr_add]
        exact g1
      | false =>
        have hlt := of_bleF hr
        rw [hr] at h
        simp only [cond_true, cond_false] at h
        cases hb : Nat.ble ((len + n) * i.bytes + (len + n)) 1099511627776 with
        | false => rw [hb] at h; exact (H.fail_some (σ := σ) h).elim
        | true =>
          have hb1 := of_bleT hb
          rw [hb] at h
          simp only [cond_true, cond_false] at h
          cases hx : Nat.beq (tag % 2) 1 with
          | true =>
            rw [hx] at h
            simp only [cond_true, cond_false] at h
            have hcap := e4 (of_beqT hx)
            obtain ⟨old, σ1, k1, k2⟩ := H.bind_some h
            obtain ⟨b2, σ2, k3, k4⟩ := H.bind_some k2
            obtain ⟨rfl, rfl⟩ := newBlk_some k3
            obtain ⟨rfl, rfl⟩ := H.pure_some k4
            have hold : σ1 = σ ∧ old.length = len * i.size ∧ ∃ old', RelL μ old old' ∧ ∀ w1 : World, w1.heap = w.heap → (Builtin.firstCells i.size len (.slice (some ⟨B, oo, none⟩) len cap')).run P w1 = .ok old'.toArray w1 := by
              cases hl0 : Nat.beq len 0 with
              | true =>
                rw [hl0] at k1
                obtain ⟨rfl, rfl⟩ := H.pure_some k1
                have := of_beqT hl0
                subst this
                exact ⟨rfl, by simp, [], .nil, fun w1 _ => by simp [Builtin.firstCells, loadCells, loadCellsFrom]⟩
              | false =>
                rw [hl0] at k1
                obtain ⟨c0, ro, ty', fl, hb', hk, rfl⟩ := readCells_some k1
                obtain ⟨r', g2, g1⟩ := run_reads_all (P := P) ok.sim hb' e1 hk
                exact ⟨rfl, by obtain ⟨a, b⟩ := take?_spec hk; rw [b, List.length_take, List.length_drop]; (try simp only at a); omega, r', g2, fun w1 hw => by simpa [Builtin.firstCells] using g1 w1 hw⟩
            obtain ⟨rfl, lo, old', ro', hold⟩ := hold
            exact AppOut.grow (P := P) ok (ty := ty) (ro := 0) (fl := 1) (Step.refl ok) (fun _ h => h.elim) ok hu hi hz hzs hs1 hs (by omega) hold hb1 ro' rn lo ln (Nat.le_refl _)
          | false =>
            rw [hx] at h
            simp only [cond_true, cond_false] at h
            cases h0 : Nat.beq oo 0 with
            | false => rw [h0] at h; exact (H.fail_some (σ := σ) h).elim
            | true =>
              have := of_beqT h0
              subst this
              rw [h0] at h
              simp only [cond_true] at h
              obtain ⟨q, σ1, k1, k2⟩ := H.bind_some h
              obtain ⟨hb', rfl⟩ := getCells_some k1
              obtain ⟨c0, ro, ty', fl⟩ := q
              obtain ⟨old, σ2, k3, k4⟩ := H.bind_some k2
              obtain ⟨hk, rfl⟩ := H.opt_some k3
              simp only at hb' k4
              cases hc : (Nat.ble ro (len * i.size) && Nat.beq ty' e && Nat.ble 1 fl && new.all one) with
              | false => rw [hc] at k4; exact (H.fail_some (σ := σ2) k4).elim
              | true =>
                rw [hc] at k4
                simp only [Bool.and_eq_true] at hc
                obtain ⟨⟨⟨hc1, hc2⟩, hc3⟩, hc4⟩ := hc
                have hro := of_bleT hc1
                have hfl := of_bleT hc3
                have := of_beqT hc2
                subst this
                simp only [cond_true] at k4
                obtain ⟨u, σ3, k5, k6⟩ := H.bind_some k4
                simp only [killBlk, Option.some.injEq, Prod.mk.injEq, true_and] at k5
                subst k5
                obtain ⟨b2, σ4, k7, k8⟩ := H.bind_some k6
                obtain ⟨rfl, rfl⟩ := newBlk_some k7
                obtain ⟨rfl, rfl⟩ := H.pure_some k8
                simp only [lo_min]
                simp only at hk
                obtain ⟨old', ro', hold⟩ := run_reads_all (P := P) ok.sim hb' e1 hk
                have lo : old.length = len * i.size := by obtain ⟨a, b⟩ := take?_spec hk; rw [b, List.length_take, List.length_drop]; (try simp only at a); omega
                rcases Nat.lt_or_ge cap' (len + n) with hg | hg
                · have st := Step.kill ok b _ hb'
                  exact AppOut.grow (P := P) st.ok (ty := ty) (ro := ro) (fl := fl) st (fun c h => by rw [h]) ok hu hi hz hzs hs1 hs hg (fun w1 hw => by simpa [Builtin.firstCells] using hold w1 hw) hb1 ro' rn lo ln hfl
                · obtain ⟨cs, fr, g1, g2, g3, g4, g5, g6, g7⟩ := ok.sim.cells hb' e1
                  have hmul : len * i.size + n * i.size ≤ cap' * i.size := by rw [← Nat.add_mul]; exact Nat.mul_le_mul_right _ hg
                  have e3' := rn.length
                  obtain ⟨w', cs', r, s1, s2, s3, s4, s5, s6⟩ := run_stores (P := P) B ty' fr new' (len * i.size) 0 w cs g1 (by omega) (fun j a b => g6 j (by omega) (by omega)) (by rw [all_one_of_rel rn]; exact hc4)
                  have hext := Mp.up_ext (B := B) (lim := lim) (ok.free σ2.next (Nat.le_refl _))
                  have st := Step.reuse ok b B lim lim _ (.cells (old ++ new) ro ty' fl) w' hb' e1 s1 s2 (by
                    refine ⟨cs', fr, s3, by simp only [List.length_append]; omega, by omega, fun e => by omega, fun j u hu => ?_, by rw [s4]; exact ⟨g6, g7⟩⟩
                    rw [s5]
                    by_cases hj : j < len * i.size
                    · rw [if_neg (by omega)]
                      rw [List.getElem?_append_left (by omega)] at hu
                      obtain ⟨a, b'⟩ := take?_spec hk
                      rw [b', List.getElem?_take] at hu
                      simp only [hj, if_true, List.drop_zero] at hu
                      obtain ⟨y, p1, p2⟩ := g5 j u (by simpa using hu)
                      exact ⟨y, p1, p2.mono hext⟩
                    · rw [List.getElem?_append_right (by omega)] at hu
                      obtain ⟨y, p1, p2⟩ := rn.get hu
                      have hlt' := (List.getElem?_eq_some_iff.mp p1).1
                      rw [if_pos (by omega)]
                      refine ⟨y, ?_, p2.mono hext⟩
                      rw [← p1]; congr 1; omega) s6
                  refine ⟨_, w', _, _, run_app_in w w' t t' ty ty' i zv hu hi hz hzs (some ⟨B, 0, none⟩) x' n len cap' new' hs hg ?_, st, .slice (Mp.up_same ..) (by simp; omega) (Nat.le_refl _) (fun h => by simp at h) hg (by simp; omega), fun c h => by rw [h]⟩
                  simp only [addr_add, Nat.zero_add]
                  exact r
  | _ => exact (H.fail_some (σ := σ) h).elim

variable (T : TOk P ti sk) (hρ : OpdRel D G env μ ρ) (ok : Ok μ w σ)
include T hρ ok

theorem snd_append {t t' e : TypeId} {d : TypeDesc} {s x : Operand} {c : Call} {i : TypeInfo} {z : List Value} (hop : o.op = .call c) (hc : c.callee = .builtin .append) (hargs : c.args = #[s, x]) (ht : c.argTypes = #[t, t']) (hs : D s = true) (hx : D x = true)
    (hu : und ti t = some (.slice e)) (hu2 : und ti t' = some d) (hd : ∀ k, d ≠ .int k) (hi : ti e = some i) (hz : zeroCells? ti e = some z) (hzl : z.length = i.size) (hs1 : 1 ≤ i.size)
    (h : aop G L env (.append e i.size i.bytes (opd s) (opd x)) σ = some (v, σ')) : OpOut P ρ o μ w σ v σ' := by
  obtain ⟨zv, hz1, hz2, hz3⟩ := zeroCells_spec hz
  simp only [aop] at h
  cases hv : ev G env (opd s) with
  | none => rw [hv] at h; exact (H.fail_some h).elim
  | some sv =>
    cases hvx : ev G env (opd x) with
    | none => rw [hv, hvx] at h; exact (H.fail_some h).elim
    | some xv =>
      rw [hv, hvx] at h
      simp only [appendA] at h
      obtain ⟨p, σ1, k1, k2⟩ := H.bind_some h
      obtain ⟨n, new⟩ := p
      obtain ⟨rfl, g1, g2, new', g3, g4⟩ := run_src (P := P) ok k1 (hρ x hx _ hvx)
      have hz4 : i.zero = some zv := by simp only [zeroOf?, hi] at hz1; exact hz1
      have hzs : zv.cells.size = i.size := by rw [← hzl, ← hz2]; simp
      obtain ⟨v', w', μ', M, r1, r2, r3, r4⟩ := appendC_sound (P := P) (ty := o.type) ok (und_spec T.info hu) (T.info _ _ hi) hz4 hzs hs1 (.inl ⟨d, und_spec T.info hu2, hd, g1, g4⟩) g3 g2 (hρ s hs _ hv) k2
      refine ⟨.value v', w', μ', M, v', ?_, r2, rfl, r3, r4⟩
      simp [execOp, hop, resolve, hc, hargs, ht, invoke, builtin, r1]

theorem snd_appendz {t t' e : TypeId} {k : IntKind} {s x : Operand} {c : Call} {i : TypeInfo} {z : List Value} (hop : o.op = .call c) (hc : c.callee = .builtin .append) (hargs : c.args = #[s, x]) (ht : c.argTypes = #[t, t']) (hs : D s = true) (hx : D x = true)
    (hu : und ti t = some (.slice e)) (hu2 : und ti t' = some (.int k)) (hi : ti e = some i) (hz : zeroCells? ti e = some z) (hzl : z.length = i.size) (hs1 : 1 ≤ i.size)
    (h : aop G L env (.appendz e i.size i.bytes z (opd s) (opd x)) σ = some (v, σ')) : OpOut P ρ o μ w σ v σ' := by
  obtain ⟨zv, hz1, hz2, hz3⟩ := zeroCells_spec hz
  simp only [aop] at h
  cases hv : ev G env (opd s) with
  | none => rw [hv] at h; exact (H.fail_some h).elim
  | some sv =>
    cases hvx : ev G env (opd x) with
    | none => rw [hv, hvx] at h; exact (H.fail_some h).elim
    | some xv =>
      rw [hv, hvx] at h
      have hrx := hρ x hx _ hvx
      generalize hq : ρ x = q at hrx
      cases hrx with
      | int k' n =>
        simp only at h
        split at h
        · rename_i hb
          obtain ⟨hb1, hb2, hb3⟩ := hb
          have hz4 : i.zero = some zv := by simp only [zeroOf?, hi] at hz1; exact hz1
          have hzs : zv.cells.size = i.size := by rw [← hzl, ← hz2]; simp
          obtain ⟨v', w', μ', M, r1, r2, r3, r4⟩ := appendC_sound (P := P) (ty := o.type) (x' := .int k' n) (new' := replicateL n.toNat z) ok (und_spec T.info hu) (T.info _ _ hi) hz4 hzs hs1 (.inr ⟨k, k', n, und_spec T.info hu2, rfl, hb1, hb2, hb3, rfl, by rw [hz2]⟩) (RelL.replicateL hz3 _) (by rw [replicateL_length, hzl]) (hρ s hs _ hv) h
          refine ⟨.value v', w', μ', M, v', ?_, r2, rfl, r3, r4⟩
          simp [execOp, hop, resolve, hc, hargs, ht, invoke, builtin, hq, r1]
        · exact (H.fail_some h).elim
      | _ => exact (H.fail_some h).elim
end
end Go.Am

