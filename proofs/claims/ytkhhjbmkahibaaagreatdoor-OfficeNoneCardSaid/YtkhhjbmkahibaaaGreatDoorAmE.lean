/-
  The abstract machine: regions that draw their order.
-/
import Derived.Test.YtkhhjbmkahibaaaGreatDoorAmD
set_option linter.unusedVariables false
set_option linter.unusedSimpArgs false
set_option linter.unusedSectionVars false
set_option linter.unnecessarySimpa false
namespace Go.Am

theorem memN_iff {b : Nat} : ∀ {l : List Nat}, memN b l = true ↔ b ∈ l
  | [] => by simp [memN]
  | c :: cs => by
    simp only [memN, Bool.or_eq_true, List.mem_cons, memN_iff (l := cs)]
    constructor
    · rintro (h | h)
      · exact .inl (of_beqT h)
      · exact .inr h
    · rintro (h | h)
      · exact .inl (beqT h)
      · exact .inr h
theorem memN_false {b : Nat} {l : List Nat} (h : memN b l = false) : b ∉ l := fun hm => by rw [memN_iff.2 hm] at h; cases h
theorem eraseL_get (b : Nat) : ∀ (l : List Nat) (t : T Blk), (eraseL l t).get b = if b ∈ l then none else t.get b
  | [], t => by simp [eraseL]
  | c :: cs, t => by
    rw [eraseL, eraseL_get b cs, T.get_set]
    by_cases h : b ∈ cs
    · simp [h]
    · by_cases e : b = c
      · simp [e]
      · simp [h, e]
theorem patch_get (h : T Blk) (b : Nat) : ∀ (l : List Nat) (t : T Blk), (patch h l t).get b = if b ∈ l then h.get b else t.get b
  | [], t => by simp [patch]
  | c :: cs, t => by
    rw [patch, patch_get h b cs, T.get_set]
    by_cases hm : b ∈ cs
    · simp [hm]
    · by_cases e : b = c
      · simp [e]
      · simp [hm, e]
theorem hidden_mem {pre b : Nat} : ∀ {own : List (Nat × List Nat)}, b ∉ hidden pre own → ∀ j l, (j, l) ∈ own → b ∈ l → Nat.testBit pre j = true
  | [], _, j, l, h, _ => by simp at h
  | (j', l') :: rest, hn, j, l, h, hb => by
    simp only [hidden] at hn
    cases ht : Nat.testBit pre j' with
    | true =>
      rw [ht] at hn
      rcases List.mem_cons.1 h with e | e
      · cases e; exact ht
      · exact hidden_mem hn j l e hb
    | false =>
      rw [ht] at hn
      simp only [cond_false, List.mem_append, not_or] at hn
      rcases List.mem_cons.1 h with e | e
      · cases e; exact absurd hb hn.1
      · exact hidden_mem hn.2 j l e hb
theorem apart_spec {pre b : Nat} : ∀ {l : List (Nat × Nat)}, apart pre b l = true → ∀ j m, (j, m) ∈ l → Nat.testBit pre j = true ∨ m ≠ b
  | [], _, j, m, h => by simp at h
  | (j', m') :: rest, h, j, m, hm => by
    simp only [apart, Bool.and_eq_true, Bool.or_eq_true, Bool.not_eq_true'] at h
    rcases List.mem_cons.1 hm with e | e
    · cases e; exact h.1.imp id of_beqF
    · exact apart_spec h.2 j m e
theorem of_bltT {a b : Nat} (h : Nat.blt a b = true) : a < b := of_bleT h
theorem within_spec {a b : Nat} : ∀ {l : List Nat}, within a b l = true → ∀ c ∈ l, a ≤ c ∧ c < b
  | [], _, c, h => by simp at h
  | x :: xs, h, c, hc => by
    simp only [within, Bool.and_eq_true] at h
    rcases List.mem_cons.1 hc with e | e
    · rw [e]; exact ⟨of_bleT h.1.1, of_bltT h.1.2⟩
    · exact within_spec h.2 c e

/-- what one operation of the region did -/
structure Ran (X : Ctx) (call : CallT) (ao : AOper) (i : Nat) (env env' : Env) (d d' : DSt) (V : T Blk) (L : Nat) (v : Value) (σ : St) (ids : List Nat) : Prop where
  run : ∃ ids0, runOp X call env ao.op { heap := V, next := d.next, lo := L } = some (v, σ, ids0)
  env : env' = putDst env ao.dst v
  next : d'.next = σ.next
  nle : d.next ≤ d'.next
  lole : d'.lo ≤ d.lo
  sub : ∀ b x, V.get b = some x → d.heap.get b = some x
  lone : ao.lonely = true → L = d.lo ∧ d'.heap = σ.heap ∧ d'.lo = σ.lo
  nlone : ao.lonely = false → L = d.next
  heap : ao.lonely = false → ∀ b, d'.heap.get b = if b ∈ ids then σ.heap.get b else if σ.lo < d.next ∧ b = σ.lo then σ.heap.get b else d.heap.get b
  idsIn : ao.lonely = false → ∀ b ∈ ids, d.next ≤ b ∧ b < d'.next
  hot : ao.lonely = false → σ.lo < d.next → ao.loud = 3 ∧ V.get σ.lo ≠ none ∧ (∀ j b, (j, b) ∈ d.rd → Nat.testBit ao.preds j = true ∨ b ≠ σ.lo) ∧ (i, σ.lo) ∈ d'.hot ∧ d'.lo ≤ σ.lo
  see : ao.lonely = false → ∀ b, V.get b ≠ none → ao.loud ≠ 0 ∧ (∀ j l, (j, l) ∈ d.own → b ∈ l → Nat.testBit ao.preds j = true) ∧ (ao.loud = 1 → (∀ j m, (j, m) ∈ d.hot → Nat.testBit ao.preds j = true ∨ m ≠ b) ∧ (i, b) ∈ d'.rd)
  owns : ao.lonely = false → ids ≠ [] → (i, ids) ∈ d'.own
  pure : ao.lonely = false → ao.loud = 0 → d'.next = d.next
  own' : ∀ e ∈ d.own, e ∈ d'.own
  rd' : ∀ e ∈ d.rd, e ∈ d'.rd
  hot' : ∀ e ∈ d.hot, e ∈ d'.hot

theorem stepDraw_spec {X : Ctx} {call : CallT} {ao : AOper} {i : Nat} {env env' : Env} {d d' : DSt} (h : stepDraw X call ao i env d = some (env', d')) :
    (guardOk env ao.guard = some false ∧ env' = putDst env ao.dst (.tuple #[]) ∧ d' = d) ∨
    (guardOk env ao.guard = some true ∧ ∃ V L v σ ids, Ran X call ao i env env' d d' V L v σ ids) := by
  unfold stepDraw at h
  cases hg : guardOk env ao.guard with
  | none => rw [hg] at h; cases h
  | some g =>
    rw [hg] at h
    cases g with
    | false => simp at h; exact .inl ⟨rfl, h.1.symm, h.2.symm⟩
    | true =>
      refine .inr ⟨rfl, ?_⟩
      simp only at h
      cases hl : ao.lonely with
      | true =>
        rw [hl] at h
        simp only [cond_true] at h
        cases hr : runOp X call env ao.op { heap := d.heap, next := d.next, lo := d.lo } with
        | none => rw [hr] at h; cases h
        | some p =>
          obtain ⟨v, σ, ids⟩ := p
          rw [hr] at h
          simp only at h
          cases hc : (Nat.ble d.next σ.next && Nat.ble σ.lo d.lo) with
          | false => rw [hc] at h; cases h
          | true =>
            rw [hc] at h
            simp only [Bool.and_eq_true] at hc
            simp only [cond_true, Option.some.injEq, Prod.mk.injEq] at h
            obtain ⟨rfl, rfl⟩ := h
            have c1 := of_bleT hc.1
            have c2 := of_bleT hc.2
            exact ⟨d.heap, d.lo, v, σ, [], {
              run := ⟨_, hr⟩, env := rfl, next := rfl, nle := c1, lole := c2, sub := fun _ _ h => h, lone := fun _ => ⟨rfl, rfl, rfl⟩,
              nlone := (by simp [hl]), heap := (by simp [hl]), idsIn := (by simp [hl]), hot := (by simp [hl]), see := (by simp [hl]), owns := (by simp [hl]),
              pure := (by simp [hl]), own' := fun _ h => h, rd' := fun _ h => h, hot' := fun _ h => h }⟩
      | false =>
        rw [hl] at h
        simp only [cond_false] at h
        have noLone : ∀ {p : Prop}, ao.lonely = true → p := fun h => by rw [hl] at h; cases h
        split at h
        · -- no touch of the heap
          rename_i hloud
          cases hr : runOp X call env ao.op { heap := .nil, next := d.next, lo := d.next } with
          | none => rw [hr] at h; cases h
          | some p =>
            obtain ⟨v, σ, ids⟩ := p
            rw [hr] at h
            simp only at h
            cases hc : (Nat.beq σ.next d.next && Nat.beq σ.lo d.next) with
            | false => rw [hc] at h; cases h
            | true =>
              rw [hc] at h
              simp only [Bool.and_eq_true] at hc
              simp only [cond_true, Option.some.injEq, Prod.mk.injEq] at h
              obtain ⟨rfl, rfl⟩ := h
              have c1 := of_beqT hc.1
              have c2 := of_beqT hc.2
              exact ⟨.nil, d.next, v, σ, [], {
                run := ⟨_, hr⟩, env := rfl, next := c1.symm, nle := Nat.le_refl _, lole := Nat.le_refl _, sub := (fun b x h => by simp [T.get_nil] at h), lone := noLone,
                nlone := fun _ => rfl, heap := (fun _ b => by simp [c2]), idsIn := (fun _ b h => by simp at h), hot := (fun _ h => by omega), see := (fun _ b h => by simp [T.get_nil] at h), owns := fun _ h => absurd rfl h,
                pure := (fun _ _ => rfl), own' := fun _ h => h, rd' := fun _ h => h, hot' := fun _ h => h }⟩
        · rename_i hloud
          split at h
          · -- a load
            rename_i b hro
            cases hm : memN b (hidden ao.preds d.own) with
            | true => rw [hm] at h; cases h
            | false =>
              rw [hm] at h
              simp only [cond_false] at h
              cases hap : apart ao.preds b d.hot with
              | false => rw [hap] at h; cases h
              | true =>
                rw [hap] at h
                simp only [cond_true] at h
                cases hx : d.heap.get b with
                | none => rw [hx] at h; cases h
                | some x =>
                  rw [hx] at h
                  simp only at h
                  cases hr : runOp X call env ao.op { heap := T.set .nil b (some x), next := d.next, lo := d.next } with
                  | none => rw [hr] at h; cases h
                  | some p =>
                    obtain ⟨v, σ, ids⟩ := p
                    rw [hr] at h
                    simp only at h
                    cases hc : (Nat.beq σ.next d.next && Nat.beq σ.lo d.next) with
                    | false => rw [hc] at h; cases h
                    | true =>
                      rw [hc] at h
                      simp only [Bool.and_eq_true] at hc
                      simp only [cond_true, Option.some.injEq, Prod.mk.injEq] at h
                      obtain ⟨rfl, rfl⟩ := h
                      have c1 := of_beqT hc.1
                      have c2 := of_beqT hc.2
                      have hV : ∀ c, (T.set (.nil : T Blk) b (some x)).get c = if c = b then some x else none := fun c => by rw [T.get_set, T.get_nil]
                      exact ⟨_, d.next, v, σ, [], {
                        run := ⟨_, hr⟩, env := rfl, next := c1.symm, nle := Nat.le_refl _, lole := Nat.le_refl _, lone := noLone,
                        sub := (fun c y h => by
                          rw [hV] at h
                          by_cases e : c = b
                          · rw [if_pos e] at h; rw [e, hx]; exact h
                          · rw [if_neg e] at h; cases h),
                        nlone := fun _ => rfl, heap := (fun _ b => by simp [c2]), idsIn := (fun _ b h => by simp at h), hot := (fun _ h => by omega),
                        see := (fun _ c h => by
                          rw [hV] at h
                          by_cases e : c = b
                          · subst e; exact ⟨by rw [hloud]; decide, hidden_mem (memN_false hm), fun _ => ⟨apart_spec hap, by simp⟩⟩
                          · simp [e] at h),
                        owns := fun _ h => absurd rfl h, pure := (fun _ h => absurd (hloud.symm.trans h) (by decide)), own' := fun _ h => h, rd' := fun _ h => List.mem_cons_of_mem _ h, hot' := fun _ h => h }⟩
          · -- new memory
            cases hr : runOp X call env ao.op { heap := .nil, next := d.next, lo := d.next } with
            | none => rw [hr] at h; cases h
            | some p =>
              obtain ⟨v, σ, ids⟩ := p
              rw [hr] at h
              simp only at h
              cases hc : (Nat.ble d.next σ.lo && Nat.ble d.next σ.next && within d.next σ.next ids) with
              | false => rw [hc] at h; cases h
              | true =>
                rw [hc] at h
                simp only [Bool.and_eq_true] at hc
                simp only [cond_true, Option.some.injEq, Prod.mk.injEq] at h
                obtain ⟨rfl, rfl⟩ := h
                have c1 := of_bleT hc.1.1
                have c2 := of_bleT hc.1.2
                exact ⟨.nil, d.next, v, σ, ids, {
                  run := ⟨_, hr⟩, env := rfl, next := rfl, nle := c2, lole := Nat.le_refl _, sub := (fun b x h => by simp [T.get_nil] at h), lone := noLone,
                  nlone := fun _ => rfl, heap := (fun _ b => by simp only [patch_get]; rw [if_neg (c := σ.lo < d.next ∧ b = σ.lo) (by omega)]), idsIn := fun _ => within_spec hc.2, hot := (fun _ h => by omega), see := (fun _ b h => by simp [T.get_nil] at h),
                  owns := (fun _ h => by cases ids <;> simp at h ⊢),
                  pure := (fun _ h => absurd (hloud.symm.trans h) (by decide)), own' := (fun _ h => by cases ids <;> simp [h]), rd' := fun _ h => h, hot' := fun _ h => h }⟩
        · -- all that is ordered before is seen
          rename_i hl0 hl1
          cases hr : runOp X call env ao.op { heap := eraseL (hidden ao.preds d.own) d.heap, next := d.next, lo := d.next } with
          | none => rw [hr] at h; cases h
          | some p =>
            obtain ⟨v, σ, ids⟩ := p
            rw [hr] at h
            simp only at h
            cases hc : (Nat.ble d.next σ.next && within d.next σ.next ids) with
            | false => rw [hc] at h; cases h
            | true =>
              rw [hc] at h
              simp only [Bool.and_eq_true] at hc
              have c2 := of_bleT hc.1
              have hsub : ∀ b x, (eraseL (hidden ao.preds d.own) d.heap).get b = some x → d.heap.get b = some x := fun b x h => by
                rw [eraseL_get] at h; split at h
                · cases h
                · exact h
              have hsee : ∀ b, (eraseL (hidden ao.preds d.own) d.heap).get b ≠ none → b ∉ hidden ao.preds d.own := fun b h hm => by rw [eraseL_get, if_pos hm] at h; exact h rfl
              simp only [cond_true] at h
              cases hlo : Nat.ble d.next σ.lo with
              | true =>
                rw [hlo] at h
                simp only [cond_true, Option.some.injEq, Prod.mk.injEq] at h
                obtain ⟨rfl, rfl⟩ := h
                have c1 := of_bleT hlo
                exact ⟨_, d.next, v, σ, ids, {
                  run := ⟨_, hr⟩, env := rfl, next := rfl, nle := c2, lole := Nat.le_refl _, sub := hsub, lone := noLone,
                  nlone := fun _ => rfl, heap := (fun _ b => by simp only [patch_get]; rw [if_neg (c := σ.lo < d.next ∧ b = σ.lo) (by omega)]), idsIn := fun _ => within_spec hc.2, hot := (fun _ h => by omega),
                  see := fun _ b h => ⟨fun e => hl0 e, hidden_mem (hsee b h), fun e => absurd e hl1⟩,
                  owns := (fun _ h => by cases ids <;> simp at h ⊢),
                  pure := (fun _ h => absurd h hl0), own' := (fun _ h => by cases ids <;> simp [h]), rd' := fun _ h => h, hot' := fun _ h => h }⟩
              | false =>
                have c1 := of_bleF hlo
                rw [hlo] at h
                simp only [cond_false] at h
                cases hb : (Nat.beq ao.loud 3 && apart ao.preds σ.lo d.rd) with
                | false => rw [hb] at h; cases h
                | true =>
                  rw [hb] at h
                  simp only [Bool.and_eq_true] at hb
                  simp only [cond_true] at h
                  split at h
                  · rename_i y hy
                    simp only [Option.some.injEq, Prod.mk.injEq] at h
                    obtain ⟨rfl, rfl⟩ := h
                    exact ⟨_, d.next, v, σ, ids, {
                      run := ⟨_, hr⟩, env := rfl, next := rfl, nle := c2, lole := (by simp only [lo_min]; omega), sub := hsub, lone := noLone,
                      nlone := fun _ => rfl,
                      heap := (fun _ b => by
                        simp only [T.get_set, patch_get]
                        by_cases e : b = σ.lo
                        · subst e; simp [c1]
                        · simp [e]),
                      idsIn := fun _ => within_spec hc.2, hot := fun _ _ => ⟨of_beqT hb.1, by rw [hy]; simp, apart_spec hb.2, by simp, by simp only [lo_min]; omega⟩,
                      see := fun _ b h => ⟨fun e => hl0 e, hidden_mem (hsee b h), fun e => absurd e hl1⟩,
                      owns := (fun _ h => by cases ids <;> simp at h ⊢),
                      pure := (fun _ h => absurd h hl0), own' := (fun _ h => by cases ids <;> simp [h]), rd' := fun _ h => h, hot' := fun _ h => List.mem_cons_of_mem _ h }⟩
                  · cases h
end Go.Am

namespace Go.Am
section
variable {ti : TypeId → Option TypeInfo} {sk : TypeId → Bool}

def looked (o : Oper) (g : Option (Nat × Bool)) (t : Nat) : Prop := (.tmp t ∈ o.op.operands) ∨ ∃ b, g = some (t, b)
theorem mem_looks : ∀ {l : List Operand} {g : Option (Nat × Bool)} {t : Nat}, (.tmp t ∈ l ∨ ∃ b, g = some (t, b)) → t ∈ looks l g
  | [], none, t, h => by simp at h
  | [], some (u, b), t, h => by simp [looks]; rcases h with h | ⟨c, h⟩ <;> simp at h; exact h.1.symm
  | .tmp u :: l, g, t, h => by
    simp only [looks, List.mem_cons]
    rcases h with h | h
    · rcases List.mem_cons.1 h with e | e
      · left; cases e; rfl
      · exact .inr (mem_looks (.inl e))
    · exact .inr (mem_looks (.inr h))
  | .const v :: l, g, t, h => by
    simp only [looks]
    exact mem_looks (h.imp (fun h => by rcases List.mem_cons.1 h with e | e; cases e; exact e) id)
  | .global v :: l, g, t, h => by
    simp only [looks]
    exact mem_looks (h.imp (fun h => by rcases List.mem_cons.1 h with e | e; cases e; exact e) id)
  | .func v :: l, g, t, h => by
    simp only [looks]
    exact mem_looks (h.imp (fun h => by rcases List.mem_cons.1 h with e | e; cases e; exact e) id)

theorem inO_false {d : Option Nat} {l : List Nat} (h : inO d l = false) : ∀ x, d = some x → x ∉ l := by
  intro x e; subst e; exact memN_false h
theorem sameO_false {a b : Option Nat} (h : sameO a b = false) : ∀ x, a = some x → b ≠ some x := by
  intro x e e'; subst e e'; simp [sameO] at h

theorem slotsOk_spec {pre : Nat} {d : Option Nat} {l : List Nat} : ∀ {sl : List (Nat × Option Nat × List Nat)}, slotsOk pre d l sl = true → ∀ j dj lj, (j, dj, lj) ∈ sl →
    (∀ x, d = some x → dj ≠ some x) ∧ (Nat.testBit pre j = true ∨ ((∀ x, dj = some x → x ∉ l) ∧ ∀ x, d = some x → x ∉ lj))
  | [], _, j, dj, lj, h => by simp at h
  | (j', dj', lj') :: rest, h, j, dj, lj, hm => by
    simp only [slotsOk, Bool.and_eq_true, Bool.or_eq_true, Bool.not_eq_true'] at h
    rcases List.mem_cons.1 hm with e | e
    · cases e
      exact ⟨sameO_false h.1.1, h.1.2.imp id fun ⟨a, b⟩ => ⟨inO_false a, inO_false b⟩⟩
    · exact slotsOk_spec h.2 j dj lj e

theorem besideOk_spec {before : Array Nat} {i k : Nat} : ∀ {louds : List (Nat × Nat)}, besideOk before i k louds = true → ∀ j l, (j, l) ∈ louds → j = i ∨ besides k l = true ∨ ordered before i j = true
  | [], _, j, l, h => by simp at h
  | (j', l') :: rest, h, j, l, hm => by
    simp only [besideOk, Bool.and_eq_true, Bool.or_eq_true] at h
    rcases List.mem_cons.1 hm with e | e
    · cases e
      rcases h.1 with (a | a) | a
      · exact .inl (of_beqT a)
      · exact .inr (.inl a)
      · exact .inr (.inr a)
    · exact besideOk_spec h.2 j l e
theorem lonelyAt_spec {before : Array Nat} {i : Nat} : ∀ {louds : List (Nat × Nat)}, lonelyAt before i louds = true → ∀ j l, (j, l) ∈ louds → l = 0 ∨ j = i ∨ ordered before i j = true
  | [], _, j, l, h => by simp at h
  | (j', l') :: rest, h, j, l, hm => by
    simp only [lonelyAt, Bool.and_eq_true, Bool.or_eq_true] at h
    rcases List.mem_cons.1 hm with e | e
    · cases e
      rcases h.1 with (a | a) | a
      · exact .inl (of_beqT a)
      · exact .inr (.inl (of_beqT a))
      · exact .inr (.inr a)
    · exact lonelyAt_spec h.2 j l e

theorem loudsOf_mem : ∀ (l : List Oper) (i k : Nat) (o : Oper), l[k]? = some o → (i + k, loudness (opOf ti sk o)) ∈ loudsOf ti sk l i
  | [], i, k, o, h => by simp at h
  | p :: l, i, 0, o, h => by simp at h; subst h; simp [loudsOf]
  | p :: l, i, k + 1, o, h => by
    simp only [loudsOf, List.mem_cons]
    right
    have := loudsOf_mem l (i + 1) k o (by simpa using h)
    have e : i + 1 + k = i + (k + 1) := by omega
    rwa [e] at this

theorem backOk_spec {i : Nat} : ∀ {l : List Edge}, backOk i l = true → ∀ e ∈ l, Region.binds .any e = true → e.on < i
  | [], _, e, h, _ => by simp at h
  | e' :: es, h, e, hm, hb => by
    simp only [backOk, Bool.and_eq_true, Bool.or_eq_true, Bool.not_eq_true'] at h
    rcases List.mem_cons.1 hm with q | q
    · subst q
      rcases h.1 with h' | h'
      · exact of_bltT h'
      · rw [hb] at h'; cases h'
    · exact backOk_spec h.2 e q hb

/-- the facts of a translated region -/
structure DrawOk (ti : TypeId → Option TypeInfo) (sk : TypeId → Bool) (ops : Array Oper) (ao : Nat → AOper) : Prop where
  is : ∀ i o, ops[i]? = some o → (ao i).dst = o.dst ∧ guardOf ops o.guard = some (ao i).guard ∧ (ao i).op = opOf ti sk o ∧ (ao i).loud = loudness (ao i).op ∧ (ao i).preds = (Region.before ops).getD i 0 ∧ ((ao i).lonely = true → (ao i).loud ≠ 0)
  slots : ∀ i j oi oj, ops[i]? = some oi → ops[j]? = some oj → j < i → (∀ x, oi.dst = some x → oj.dst ≠ some x) ∧
    (Nat.testBit (ao i).preds j = true ∨ ((∀ x, oj.dst = some x → ¬ looked oi (ao i).guard x) ∧ ∀ x, oi.dst = some x → ¬ looked oj (ao j).guard x))
  lone : ∀ i j oi oj, ops[i]? = some oi → ops[j]? = some oj → j < i → (ao i).loud ≠ 0 → (ao j).loud ≠ 0 → ((ao i).lonely = true ∨ (ao j).lonely = true) → Nat.testBit (ao i).preds j = true
  back : ∀ i o, ops[i]? = some o → ∀ e ∈ o.after, Region.binds .any e = true → e.on < i
  beside : ∀ i j oi oj, ops[i]? = some oi → ops[j]? = some oj → j < i → besides (ao i).loud (ao j).loud = false → Nat.testBit (ao i).preds j = true

theorem compDraw_facts {all : Array Oper} {louds : List (Nat × Nat)} {before : Array Nat} : ∀ (l : List Oper) (i : Nat) (sl : List (Nat × Option Nat × List Nat)) (al : List AOper), compDraw ti sk all louds before l i sl = some al →
    al.length = l.length ∧ ∀ k o, l[k]? = some o → ∃ ao, al[k]? = some ao ∧ ao.dst = o.dst ∧ guardOf all o.guard = some ao.guard ∧ ao.op = opOf ti sk o ∧ ao.loud = loudness ao.op ∧ ao.preds = before.getD (i + k) 0 ∧
      ao.lonely = (!Nat.beq ao.loud 0 && lonelyAt before (i + k) louds) ∧ (ao.loud = 0 ∨ besideOk before (i + k) ao.loud louds = true) ∧ (∀ e ∈ o.after, Region.binds .any e = true → e.on < i + k) ∧
      (∀ j dj lj, (j, dj, lj) ∈ sl → (∀ x, o.dst = some x → dj ≠ some x) ∧ (Nat.testBit ao.preds j = true ∨ ((∀ x, dj = some x → ¬ looked o ao.guard x) ∧ ∀ x, o.dst = some x → x ∉ lj))) ∧
      (∀ j o' ao', j < k → l[j]? = some o' → al[j]? = some ao' → (∀ x, o.dst = some x → o'.dst ≠ some x) ∧ (Nat.testBit ao.preds (i + j) = true ∨ ((∀ x, o'.dst = some x → ¬ looked o ao.guard x) ∧ ∀ x, o.dst = some x → ¬ looked o' ao'.guard x)))
  | [], i, sl, al, h => by simp [compDraw] at h; subst h; exact ⟨rfl, fun k o h => by simp at h⟩
  | o :: os, i, sl, al, h => by
    simp only [compDraw] at h
    cases hg : guardOf all o.guard with
    | none => rw [hg] at h; cases h
    | some g =>
      rw [hg] at h
      simp only at h
      cases hc : ((Nat.beq (loudness (opOf ti sk o)) 0 || besideOk before i (loudness (opOf ti sk o)) louds) && slotsOk (before.getD i 0) o.dst (looks o.op.operands.toList g) sl && backOk i o.after.toList) with
      | false => rw [hc] at h; cases h
      | true =>
        rw [hc] at h
        simp only [Bool.and_eq_true, Bool.or_eq_true] at hc
        simp only [cond_true] at h
        cases hr : compDraw ti sk all louds before os (i + 1) ((i, o.dst, looks o.op.operands.toList g) :: sl) with
        | none => rw [hr] at h; cases h
        | some rest =>
          rw [hr] at h
          simp only [Option.some.injEq] at h
          subst h
          obtain ⟨r1, r2⟩ := compDraw_facts os (i + 1) _ rest hr
          refine ⟨by simp [r1], fun k p hk => ?_⟩
          have hlk : ∀ (q : Oper) (gq : Option (Nat × Bool)) (x : Nat), x ∉ looks q.op.operands.toList gq → ¬ looked q gq x := fun q gq x hx hl => hx (mem_looks (hl.imp (fun h => by simpa using h) id))
          cases k with
          | zero =>
            simp at hk; subst hk
            refine ⟨_, rfl, rfl, hg, rfl, rfl, rfl, rfl, hc.1.1.imp (fun h => of_beqT h) id, fun e he hb => backOk_spec hc.2 e (by simpa using he) hb, fun j dj lj hm => ?_, fun j _ _ h => by omega⟩
            obtain ⟨a, b⟩ := slotsOk_spec hc.1.2 j dj lj hm
            exact ⟨a, b.imp id fun ⟨c, d⟩ => ⟨fun x hx => hlk _ _ _ (c x hx), d⟩⟩
          | succ k =>
            obtain ⟨ao, a1, a2, a3, a4, a5, a6, a7, a8, a8b, a9, a10⟩ := r2 k p (by simpa using hk)
            have e : i + 1 + k = i + (k + 1) := by omega
            rw [e] at a6 a7 a8 a8b
            refine ⟨ao, by simpa using a1, a2, a3, a4, a5, a6, a7, a8, a8b, fun j dj lj hm => a9 j dj lj (List.mem_cons_of_mem _ hm), fun j o' ao' hj h1 h2 => ?_⟩
            cases j with
            | zero =>
              simp at h1 h2
              subst h1 h2
              obtain ⟨b1, b2⟩ := a9 i _ _ (List.mem_cons_self ..)
              exact ⟨b1, b2.imp id fun ⟨c, d⟩ => ⟨c, fun x hx => hlk _ _ _ (d x hx)⟩⟩
            | succ j =>
              have := a10 j o' ao' (by omega) (by simpa using h1) (by simpa using h2)
              have e : i + 1 + j = i + (j + 1) := by omega
              rwa [e] at this

theorem drawOk_of {ops : Array Oper} {al : List AOper} (h : compDraw ti sk ops (loudsOf ti sk ops.toList 0) (Region.before ops) ops.toList 0 [] = some al) :
    al.length = ops.size ∧ ∃ ao : Nat → AOper, (∀ i, i < ops.size → al[i]? = some (ao i)) ∧ DrawOk ti sk ops ao := by
  obtain ⟨h1, h2⟩ := compDraw_facts _ _ _ _ h
  have hlen : al.length = ops.size := by simpa using h1
  refine ⟨hlen, fun i => al.getD i ⟨none, none, .bad, false, 0, 0⟩, fun i hi => ?_, ?_⟩
  · simp [List.getD, List.getElem?_eq_getElem (show i < al.length by omega)]
  · have key : ∀ i o, ops[i]? = some o → al[i]? = some (al.getD i ⟨none, none, .bad, false, 0, 0⟩) := fun i o ho => by
      have := (Array.getElem?_eq_some_iff.1 ho).1
      simp [List.getD, List.getElem?_eq_getElem (show i < al.length by omega)]
    generalize hf : (fun i => al.getD i ⟨none, none, .bad, false, 0, 0⟩) = f
    have key : ∀ i o, ops[i]? = some o → al[i]? = some (f i) := fun i o ho => by rw [key i o ho, ← hf]
    have get : ∀ i o, ops[i]? = some o → _ := fun i o ho => h2 i o (by simpa using ho)
    have mem : ∀ i o, ops[i]? = some o → (i, (f i).loud) ∈ loudsOf ti sk ops.toList 0 := fun i o ho => by
      obtain ⟨ao, a1, a2, a3, a4, a5, _⟩ := get i o ho
      rw [key i o ho] at a1; cases a1
      have := loudsOf_mem (ti := ti) (sk := sk) ops.toList 0 i o (by simpa using ho)
      rw [a5, a4]; simpa using this
    have ord : ∀ i j, j < i → (ordered (Region.before ops) i j = true ↔ Nat.testBit ((Region.before ops).getD i 0) j = true) ∧ (ordered (Region.before ops) j i = true ↔ Nat.testBit ((Region.before ops).getD i 0) j = true) := by
      intro i j hj
      have e1 : Nat.blt j i = true := Nat.ble_eq_true_of_le hj
      have e2 : Nat.blt i j = false := by cases hb : Nat.blt i j with | false => rfl | true => have := of_bltT hb; omega
      simp [ordered, e1, e2]
    refine ⟨fun i o ho => ?_, fun i j oi oj hi hj hlt => ?_, fun i j oi oj hi hj hlt l1 l2 hl => ?_, fun i o ho e he hb => ?_, fun i j oi oj hi hj hlt hb => ?_⟩
    · obtain ⟨ao, a1, a2, a3, a4, a5, a6, a7, _⟩ := get i o ho
      rw [key i o ho] at a1; cases a1
      refine ⟨a2, a3, a4, a5, by simpa using a6, fun hl => ?_⟩
      rw [a7] at hl
      intro e; rw [e] at hl; cases hl
    · obtain ⟨ao, a1, a2, a3, a4, a5, a6, a7, a8, a8b, a9, a10⟩ := get i oi hi
      rw [key i oi hi] at a1; cases a1
      have := a10 j oj (f j) hlt (by simpa using hj) (key j oj hj)
      simpa using this
    · obtain ⟨ao, a1, a2, a3, a4, a5, a6, a7, a8, _⟩ := get i oi hi
      rw [key i oi hi] at a1; cases a1
      obtain ⟨ao', b1, b2, b3, b4, b5, b6, b7, b8, _⟩ := get j oj hj
      rw [key j oj hj] at b1; cases b1
      simp only [Nat.zero_add] at a6 a7 b6 b7
      rw [a6]
      rcases hl with hl | hl
      · rw [a7] at hl
        simp only [Bool.and_eq_true] at hl
        rcases lonelyAt_spec hl.2 j _ (mem j oj hj) with e | e | e
        · exact absurd e l2
        · omega
        · exact (ord i j hlt).1.1 e
      · rw [b7] at hl
        simp only [Bool.and_eq_true] at hl
        rcases lonelyAt_spec hl.2 i _ (mem i oi hi) with e | e | e
        · exact absurd e l1
        · omega
        · exact (ord i j hlt).2.1 e
    · obtain ⟨ao, a1, a2, a3, a4, a5, a6, a7, a8, a8b, _⟩ := get i o ho
      simpa using a8b e he hb
    · obtain ⟨ao, a1, a2, a3, a4, a5, a6, a7, a8, _⟩ := get i oi hi
      rw [key i oi hi] at a1; cases a1
      simp only [Nat.zero_add] at a6 a8
      rw [a6]
      rcases a8 with e | e
      · rw [e] at hb; cases (f j).loud <;> simp [besides] at hb
      · rcases besideOk_spec e j _ (mem j oj hj) with e | e | e
        · omega
        · rw [e] at hb; cases hb
        · exact (ord i j hlt).1.1 e
end
end Go.Am

namespace Go.Am

/-! #### the closure of the edges -/
def maskOf (acc : Array Nat) (o : Oper) : Nat := o.after.foldl (fun s e => if Region.binds .any e then s ||| 2 ^ e.on ||| acc.getD e.on 0 else s) 0
theorem before_eq (ops : Array Oper) : Region.before ops = ops.foldl (init := #[]) fun acc o => acc.push (maskOf acc o) := rfl

theorem maskOf_spec (acc : Array Nat) (o : Oper) (j : Nat) (h : Nat.testBit (maskOf acc o) j = true) : ∃ e ∈ o.after, Region.binds .any e = true ∧ (j = e.on ∨ Nat.testBit (acc.getD e.on 0) j = true) := by
  have key : ∀ (l : List Edge) (s : Nat), Nat.testBit (l.foldl (fun s e => if Region.binds .any e then s ||| 2 ^ e.on ||| acc.getD e.on 0 else s) s) j = true →
      Nat.testBit s j = true ∨ ∃ e ∈ l, Region.binds .any e = true ∧ (j = e.on ∨ Nat.testBit (acc.getD e.on 0) j = true) := by
    intro l
    induction l with
    | nil => intro s h; exact .inl h
    | cons e l ih =>
      intro s h
      rcases ih _ h with h1 | ⟨e', m, b, c⟩
      · simp only at h1
        by_cases hb : Region.binds .any e = true
        · rw [if_pos hb] at h1
          simp only [Nat.testBit_or, Bool.or_eq_true] at h1
          rcases h1 with (h1 | h1) | h1
          · exact .inl h1
          · right; refine ⟨e, by simp, hb, .inl ?_⟩
            rw [Nat.testBit_two_pow] at h1
            have := of_decide_eq_true h1; omega
          · exact .inr ⟨e, by simp, hb, .inr h1⟩
        · rw [if_neg hb] at h1; exact .inl h1
      · exact .inr ⟨e', by simp [m], b, c⟩
  unfold maskOf at h
  rw [← Array.foldl_toList] at h
  rcases key _ _ h with h | ⟨e, m, b, c⟩
  · simp at h
  · exact ⟨e, by simpa using m, b, c⟩

theorem before_fold : ∀ (l : List Oper) (acc : Array Nat), (∀ k, k < acc.size → (l.foldl (fun acc o => acc.push (maskOf acc o)) acc).getD k 0 = acc.getD k 0) ∧
    ∀ i o, l[i]? = some o → ∀ j, Nat.testBit ((l.foldl (fun acc o => acc.push (maskOf acc o)) acc).getD (acc.size + i) 0) j = true →
      ∃ e ∈ o.after, Region.binds .any e = true ∧ (j = e.on ∨ Nat.testBit ((l.foldl (fun acc o => acc.push (maskOf acc o)) acc).getD e.on 0) j = true)
  | [], acc => ⟨fun _ _ => rfl, fun i o h => by simp at h⟩
  | o :: l, acc => by
    obtain ⟨h1, h2⟩ := before_fold l (acc.push (maskOf acc o))
    simp only [List.foldl_cons]
    have h0 : ∀ k, k < acc.size → (l.foldl (fun acc o => acc.push (maskOf acc o)) (acc.push (maskOf acc o))).getD k 0 = acc.getD k 0 := fun k hk => by
      rw [h1 k (by simp; omega)]
      rw [Array.getD_eq_getD_getElem?, Array.getD_eq_getD_getElem?, Array.getElem?_push, if_neg (by omega)]
    refine ⟨h0, fun i p hi j hj => ?_⟩
    cases i with
    | zero =>
      simp at hi; subst hi
      rw [Nat.add_zero, h1 acc.size (by simp)] at hj
      have : (acc.push (maskOf acc o)).getD acc.size 0 = maskOf acc o := by simp [Array.getD]
      rw [this] at hj
      obtain ⟨e, m, b, c⟩ := maskOf_spec acc o j hj
      refine ⟨e, m, b, c.imp id fun hc => ?_⟩
      have hlt : e.on < acc.size := by
        rcases Nat.lt_or_ge e.on acc.size with h | h
        · exact h
        · rw [Array.getD_eq_getD_getElem?, Array.getElem?_eq_none h] at hc; simp at hc
      rw [h0 _ hlt]; exact hc
    | succ i =>
      have := h2 i p (by simpa using hi) j (by
        have e : (acc.push (maskOf acc o)).size + i = acc.size + (i + 1) := by simp; omega
        rw [e]; exact hj)
      exact this

theorem before_spec {ops : Array Oper} {i j : Nat} {o : Oper} (ho : ops[i]? = some o) (h : Nat.testBit ((Region.before ops).getD i 0) j = true) :
    ∃ e ∈ o.after, Region.binds .any e = true ∧ (j = e.on ∨ Nat.testBit ((Region.before ops).getD e.on 0) j = true) := by
  have := (before_fold ops.toList #[]).2 i o (by simpa using ho) j
  rw [before_eq, ← Array.foldl_toList] at *
  simpa using this (by simpa using h)

/-! #### the textual run -/
theorem runDraw_seq {X : Ctx} {call : CallT} : ∀ (al : List AOper) (i0 : Nat) (env : Env) (d : DSt) (env' : Env) (d' : DSt), runDraw X call al i0 env d = some (env', d') →
    ∃ s : Nat → Env × DSt, s i0 = (env, d) ∧ s (i0 + al.length) = (env', d') ∧ ∀ k a, al[k]? = some a → stepDraw X call a (i0 + k) (s (i0 + k)).1 (s (i0 + k)).2 = some (s (i0 + k + 1))
  | [], i0, env, d, env', d', h => by
    simp [runDraw] at h
    exact ⟨fun _ => (env, d), rfl, by rw [h.1, h.2], fun k a h => by simp at h⟩
  | a :: al, i0, env, d, env', d', h => by
    simp only [runDraw] at h
    cases hs : stepDraw X call a i0 env d with
    | none => rw [hs] at h; cases h
    | some p =>
      obtain ⟨e1, d1⟩ := p
      rw [hs] at h
      obtain ⟨s, s1, s2, s3⟩ := runDraw_seq al (i0 + 1) e1 d1 env' d' h
      refine ⟨fun k => if k = i0 then (env, d) else s k, by simp, ?_, fun k b hk => ?_⟩
      · have : i0 + (a :: al).length = i0 + 1 + al.length := by simp; omega
        rw [this]
        simp only
        rw [if_neg (by omega)]; exact s2
      · cases k with
        | zero =>
          simp at hk; subst hk
          simp [hs, s1]
        | succ k =>
          have e : i0 + (k + 1) = i0 + 1 + k := by omega
          simp only [e]
          rw [if_neg (by omega), if_neg (by omega)]
          exact s3 k b (by simpa using hk)

def cut (μ : Mp) (N : Nat) : Mp := fun b => if b < N then μ b else none
theorem cut_le {μ : Mp} {N N' : Nat} (h : N ≤ N') : Ext (cut μ N) (cut μ N') := by
  intro b x hx
  unfold cut at *
  split at hx
  · rw [if_pos (by omega)]; exact hx
  · cases hx
theorem cut_ext (μ : Mp) (N : Nat) : Ext (cut μ N) μ := by
  intro b x hx
  unfold cut at hx
  split at hx
  · exact hx
  · cases hx
theorem cut_some {μ : Mp} {N b : Nat} {x : Nat × Nat} (h : cut μ N b = some x) : b < N ∧ μ b = some x := by
  unfold cut at h
  split at h
  · exact ⟨by assumption, h⟩
  · cases h
theorem cut_lt {μ : Mp} {N b : Nat} (h : b < N) : cut μ N b = μ b := by simp [cut, h]

section
variable (P : Program) (ti : TypeId → Option TypeInfo) (sk : TypeId → Bool) (X : Ctx) (call : CallT) (ops : Array Oper) (ao : Nat → AOper) (s : Nat → Env × DSt)

abbrev RanF := Nat → T Blk × Nat × Value × St × List Nat
def ran (i : Nat) : Prop := guardOk (s i).1 (ao i).guard = some true

/-- the textual run, told -/
structure Tr (f : RanF) : Prop where
  dk : DrawOk ti sk ops ao
  skip : ∀ i, i < ops.size → ¬ ran ao s i → guardOk (s i).1 (ao i).guard = some false ∧ s (i + 1) = (putDst (s i).1 (ao i).dst (.tuple #[]), (s i).2)
  did : ∀ i, i < ops.size → ran ao s i → Ran X call (ao i) i (s i).1 (s (i + 1)).1 (s i).2 (s (i + 1)).2 (f i).1 (f i).2.1 (f i).2.2.1 (f i).2.2.2.1 (f i).2.2.2.2

theorem tr_of {al : List AOper} {env env' : Env} {d d' : DSt} (hal : compDraw ti sk ops (loudsOf ti sk ops.toList 0) (Region.before ops) ops.toList 0 [] = some al) (h : runDraw X call al 0 env d = some (env', d')) :
    ∃ (ao : Nat → AOper) (s : Nat → Env × DSt) (f : RanF), Tr ti sk X call ops ao s f ∧ s 0 = (env, d) ∧ s ops.size = (env', d') := by
  obtain ⟨hlen, ao, hao, dk⟩ := drawOk_of hal
  obtain ⟨s, s1, s2, s3⟩ := runDraw_seq al 0 env d env' d' h
  have hex : ∀ i, ∃ r : T Blk × Nat × Value × St × List Nat, i < ops.size → ran ao s i → Ran X call (ao i) i (s i).1 (s (i + 1)).1 (s i).2 (s (i + 1)).2 r.1 r.2.1 r.2.2.1 r.2.2.2.1 r.2.2.2.2 := by
    intro i
    by_cases hi : i < ops.size
    · by_cases hr : ran ao s i
      · have h3 := s3 i (ao i) (hao i hi)
        simp only [Nat.zero_add] at h3
        rcases stepDraw_spec (env' := (s (i + 1)).1) (d' := (s (i + 1)).2) h3 with ⟨a, _⟩ | ⟨_, V, L, v, σ, ids, hh⟩
        · unfold ran at hr; rw [hr] at a; cases a
        · exact ⟨(V, L, v, σ, ids), fun _ _ => hh⟩
      · exact ⟨(.nil, 0, undef, ⟨.nil, 0, 0⟩, []), fun _ h => absurd h hr⟩
    · exact ⟨(.nil, 0, undef, ⟨.nil, 0, 0⟩, []), fun h => absurd h hi⟩
  refine ⟨ao, s, fun i => Classical.choose (hex i), ⟨dk, fun i hi hr => ?_, fun i hi hr => Classical.choose_spec (hex i) hi hr⟩, s1, by simpa [hlen] using s2⟩
  have h3 := s3 i (ao i) (hao i hi)
  simp only [Nat.zero_add] at h3
  rcases stepDraw_spec (env' := (s (i + 1)).1) (d' := (s (i + 1)).2) h3 with ⟨a, b, c⟩ | ⟨a, _⟩
  · exact ⟨a, by rw [← b, ← c]⟩
  · exact absurd a hr
end
end Go.Am

namespace Go.Am
noncomputable section
section
variable {ti : TypeId → Option TypeInfo} {sk : TypeId → Bool} {X : Ctx} {call : CallT} {ops : Array Oper} {ao : Nat → AOper} {s : Nat → Env × DSt} {f : RanF}

abbrev Nx (s : Nat → Env × DSt) (i : Nat) : Nat := (s i).2.next
abbrev hp (s : Nat → Env × DSt) (i b : Nat) : Option Blk := (s i).2.heap.get b
abbrev sg (f : RanF) (i : Nat) : St := (f i).2.2.2.1
def tch (ao : Nat → AOper) (s : Nat → Env × DSt) (f : RanF) (j b : Nat) : Prop :=
  ran ao s j ∧ ((ao j).lonely = true ∨ (Nx s j ≤ b ∧ b < Nx s (j + 1)) ∨ ((sg f j).lo < Nx s j ∧ b = (sg f j).lo))
def sees (ao : Nat → AOper) (s : Nat → Env × DSt) (f : RanF) (i b : Nat) : Prop := ran ao s i ∧ (f i).1.get b ≠ none

variable (tr : Tr ti sk X call ops ao s f)
include tr

theorem nx_step {i : Nat} (hi : i < ops.size) : Nx s i ≤ Nx s (i + 1) := by
  by_cases hr : ran ao s i
  · exact (tr.did i hi hr).nle
  · have := (tr.skip i hi hr).2
    unfold Nx; rw [this]; exact Nat.le_refl _
theorem nx_mono {i j : Nat} (h : i ≤ j) (hj : j ≤ ops.size) : Nx s i ≤ Nx s j := by
  induction j with
  | zero => have : i = 0 := by omega
            subst this; exact Nat.le_refl _
  | succ j ih =>
    by_cases e : i = j + 1
    · subst e; exact Nat.le_refl _
    · exact Nat.le_trans (ih (by omega) (by omega)) (nx_step tr (by omega))
theorem lo_step {i : Nat} (hi : i < ops.size) : (s (i + 1)).2.lo ≤ (s i).2.lo := by
  by_cases hr : ran ao s i
  · exact (tr.did i hi hr).lole
  · rw [(tr.skip i hi hr).2]; exact Nat.le_refl _
theorem lo_anti {i j : Nat} (h : i ≤ j) (hj : j ≤ ops.size) : (s j).2.lo ≤ (s i).2.lo := by
  induction j with
  | zero => have : i = 0 := by omega
            subst this; exact Nat.le_refl _
  | succ j ih =>
    by_cases e : i = j + 1
    · subst e; exact Nat.le_refl _
    · exact Nat.le_trans (lo_step tr (by omega)) (ih (by omega) (by omega))

theorem lists_step {i : Nat} (hi : i < ops.size) : (∀ e ∈ (s i).2.own, e ∈ (s (i + 1)).2.own) ∧ (∀ e ∈ (s i).2.rd, e ∈ (s (i + 1)).2.rd) ∧ ∀ e ∈ (s i).2.hot, e ∈ (s (i + 1)).2.hot := by
  by_cases hr : ran ao s i
  · have r := tr.did i hi hr; exact ⟨r.own', r.rd', r.hot'⟩
  · rw [(tr.skip i hi hr).2]; exact ⟨fun _ h => h, fun _ h => h, fun _ h => h⟩
theorem lists_mono {i j : Nat} (h : i ≤ j) (hj : j ≤ ops.size) : (∀ e ∈ (s i).2.own, e ∈ (s j).2.own) ∧ (∀ e ∈ (s i).2.rd, e ∈ (s j).2.rd) ∧ ∀ e ∈ (s i).2.hot, e ∈ (s j).2.hot := by
  induction j with
  | zero => have : i = 0 := by omega
            subst this; exact ⟨fun _ h => h, fun _ h => h, fun _ h => h⟩
  | succ j ih =>
    by_cases e : i = j + 1
    · subst e; exact ⟨fun _ h => h, fun _ h => h, fun _ h => h⟩
    · obtain ⟨a, b, c⟩ := ih (by omega) (by omega)
      obtain ⟨a', b', c'⟩ := lists_step tr (i := j) (by omega)
      exact ⟨fun e h => a' e (a e h), fun e h => b' e (b e h), fun e h => c' e (c e h)⟩

theorem hp_frame {i b : Nat} (hi : i < ops.size) (h : ¬ tch ao s f i b) : hp s (i + 1) b = hp s i b := by
  by_cases hr : ran ao s i
  · have r := tr.did i hi hr
    cases hl : (ao i).lonely with
    | true => exact absurd ⟨hr, .inl hl⟩ h
    | false =>
      unfold hp
      rw [r.heap hl b, if_neg, if_neg]
      · intro e; exact h ⟨hr, .inr (.inr e)⟩
      · intro e; exact h ⟨hr, .inr (.inl (r.idsIn hl b e))⟩
  · unfold hp; rw [(tr.skip i hi hr).2]
theorem hp_frames {k i b : Nat} (hk : k ≤ i) (hi : i ≤ ops.size) (h : ∀ j, k ≤ j → j < i → ¬ tch ao s f j b) : hp s i b = hp s k b := by
  induction i with
  | zero => have : k = 0 := by omega
            subst this; rfl
  | succ i ih =>
    by_cases e : k = i + 1
    · subst e; rfl
    · rw [hp_frame tr (by omega) (h i (by omega) (by omega)), ih (by omega) (by omega) fun j h1 h2 => h j h1 (by omega)]

theorem env_frame {i t : Nat} (hi : i < ops.size) (h : (ao i).dst ≠ some t) : (s (i + 1)).1.get t = (s i).1.get t := by
  have key : ∀ v, (putDst (s i).1 (ao i).dst v).get t = (s i).1.get t := fun v => by
    cases hd : (ao i).dst with
    | none => rfl
    | some d =>
      simp only [putDst]
      rw [T.get_set, if_neg]
      intro e; subst e; exact h hd
  by_cases hr : ran ao s i
  · rw [(tr.did i hi hr).env]; exact key _
  · rw [(tr.skip i hi hr).2]; exact key _
theorem env_frames {k i t : Nat} (hk : k ≤ i) (hi : i ≤ ops.size) (h : ∀ j, k ≤ j → j < i → (ao j).dst ≠ some t) : (s i).1.get t = (s k).1.get t := by
  induction i with
  | zero => have : k = 0 := by omega
            subst this; rfl
  | succ i ih =>
    by_cases e : k = i + 1
    · subst e; rfl
    · rw [env_frame tr (by omega) (h i (by omega) (by omega)), ih (by omega) (by omega) fun j h1 h2 => h j h1 (by omega)]

theorem wf_upto (W : ∀ L, L < ops.size → ran ao s L → (ao L).lonely = true → ∀ k, L < k → True) {S : Nat → Prop} (hW : ∀ L, S L → L < ops.size → ran ao s L → (ao L).lonely = true → ∀ b, Nx s (L + 1) ≤ b → hp s (L + 1) b = none)
    (h0 : ∀ b, Nx s 0 ≤ b → hp s 0 b = none) : ∀ i, i ≤ ops.size → (∀ L, L < i → ran ao s L → (ao L).lonely = true → S L) → ∀ b, Nx s i ≤ b → hp s i b = none := by
  intro i
  induction i with
  | zero => intro _ _ b hb; exact h0 b hb
  | succ i ih =>
    intro hi hS b hb
    by_cases hl : ran ao s i ∧ (ao i).lonely = true
    · exact hW i (hS i (by omega) hl.1 hl.2) (by omega) hl.1 hl.2 b hb
    · have hm := nx_step tr (i := i) (by omega)
      rw [hp_frame tr (by omega), ih (by omega) (fun L hL => hS L (by omega)) b (by omega)]
      rintro ⟨hr, h | h | h⟩
      · exact hl ⟨hr, h⟩
      · omega
      · omega

theorem besides3 {k : Nat} (h0 : k ≠ 0) (h1 : k ≠ 1) : besides 3 k = false ∧ besides k 3 = false := by
  match k, h0, h1 with
  | 2, _, _ => exact ⟨rfl, rfl⟩
  | 3, _, _ => exact ⟨rfl, rfl⟩
  | k + 4, _, _ => exact ⟨rfl, rfl⟩

theorem sees_loud {i b : Nat} (hi : i < ops.size) (h : sees ao s f i b) : (ao i).loud ≠ 0 := by
  have r := tr.did i hi h.1
  cases hl : (ao i).lonely with
  | true => exact (tr.dk.is i _ (Array.getElem?_eq_getElem hi)).2.2.2.2.2 hl
  | false => exact (r.see hl b h.2).1
theorem tch_loud {i b : Nat} (hi : i < ops.size) (h : tch ao s f i b) : (ao i).loud ≠ 0 := by
  have r := tr.did i hi h.1
  cases hl : (ao i).lonely with
  | true => exact (tr.dk.is i _ (Array.getElem?_eq_getElem hi)).2.2.2.2.2 hl
  | false =>
    rcases h.2 with e | e | e
    · rw [hl] at e; cases e
    · intro h0
      have := r.pure hl h0
      unfold Nx at e; omega
    · rw [(r.hot hl e.1).1]; decide

/-- a later operation that touches what is seen comes after -/
theorem touch_after {i j b : Nat} (hj : j < ops.size) (hij : i < j) (hs : sees ao s f i b) (hb : b < Nx s i) (ht : tch ao s f j b) : Nat.testBit (ao j).preds i = true := by
  have hi : i < ops.size := by omega
  have oi := Array.getElem?_eq_getElem hi
  have oj := Array.getElem?_eq_getElem hj
  have li := sees_loud tr hi hs
  have lj := tch_loud tr hj ht
  have hlone : ((ao j).lonely = true ∨ (ao i).lonely = true) → Nat.testBit (ao j).preds i = true := tr.dk.lone j i _ _ oj oi hij lj li
  cases hlj : (ao j).lonely with
  | true => exact hlone (.inl hlj)
  | false =>
    cases hli : (ao i).lonely with
    | true => exact hlone (.inr hli)
    | false =>
      have ri := tr.did i hi hs.1
      have rj := tr.did j hj ht.1
      have hm := nx_mono tr (i := i) (j := j) (by omega) (by omega)
      rcases ht.2 with e | e | e
      · rw [hlj] at e; cases e
      · omega
      · obtain ⟨h1, h2, h3, h4, h5⟩ := rj.hot hlj e.1
        by_cases l1 : (ao i).loud = 1
        · have hrd := ((ri.see hli b hs.2).2.2 l1).2
          have := (lists_mono tr (i := i + 1) (j := j) (by omega) (by omega)).2.1 _ hrd
          exact (h3 i b this).resolve_right fun hne => hne e.2
        · exact tr.dk.beside j i _ _ oj oi hij (by rw [h1]; exact (besides3 tr li l1).1)

/-- an earlier operation that touches what is seen comes before -/
theorem touch_before {S : Nat → Prop} {i b : Nat} (hi : i < ops.size) (hcl : ∀ j, j < ops.size → S j → ∀ k, Nat.testBit (ao j).preds k = true → S k) (hpre : ∀ k, Nat.testBit (ao i).preds k = true → S k)
    (hwf : ∀ k, k ≤ i → ∀ b, Nx s k ≤ b → hp s k b = none) (hs : sees ao s f i b) {j : Nat} (hji : j < i) (ht : tch ao s f j b) : S j := by
  have hj : j < ops.size := by omega
  have oi := Array.getElem?_eq_getElem hi
  have oj := Array.getElem?_eq_getElem hj
  have li := sees_loud tr hi hs
  have lj := tch_loud tr hj ht
  have hlone : ((ao i).lonely = true ∨ (ao j).lonely = true) → S j := fun h => hpre j (tr.dk.lone i j _ _ oi oj hji li lj h)
  cases hlj : (ao j).lonely with
  | true => exact hlone (.inr hlj)
  | false =>
    cases hli : (ao i).lonely with
    | true => exact hlone (.inl hli)
    | false =>
      have ri := tr.did i hi hs.1
      have rj := tr.did j hj ht.1
      rcases ht.2 with e | e | e
      · rw [hlj] at e; cases e
      · -- it made the block
        by_cases hL : ∃ L, j < L ∧ L < i ∧ ran ao s L ∧ (ao L).lonely = true
        · obtain ⟨L, h1, h2, h3, h4⟩ := hL
          have oL := Array.getElem?_eq_getElem (show L < ops.size by omega)
          have lL := (tr.dk.is L _ oL).2.2.2.2.2 h4
          have hSL := hpre L (tr.dk.lone i L _ _ oi oL h2 li lL (.inr h4))
          exact hcl L (by omega) hSL j (tr.dk.lone L j _ _ oL oj h1 lL lj (.inl h4))
        · have hback : ∀ k, j < k → k ≤ i → hp s k b ≠ none → hp s (j + 1) b ≠ none := by
            intro k hk hki
            induction k with
            | zero => omega
            | succ k ih =>
              intro hne
              by_cases ek : k = j
              · subst ek; exact hne
              · refine ih (by omega) (by omega) ?_
                by_cases hr : ran ao s k
                · have rk := tr.did k (by omega) hr
                  have hlk : (ao k).lonely = false := by
                    cases h : (ao k).lonely with
                    | false => rfl
                    | true => exact absurd ⟨k, by omega, by omega, hr, h⟩ hL
                  have hm := nx_mono tr (i := j + 1) (j := k) (by omega) (by omega)
                  intro hn
                  apply hne
                  unfold hp at hn ⊢
                  rw [rk.heap hlk b, if_neg, if_neg, hn]
                  · rintro ⟨q1, q2⟩
                    have := (rk.hot hlk q1).2.1
                    rw [← q2] at this
                    cases hv : (f k).1.get b with
                    | none => exact this hv
                    | some y => rw [rk.sub b y hv] at hn; cases hn
                  · intro hm'
                    have := (rk.idsIn hlk b hm').1
                    unfold Nx at hm e; omega
                · intro hn; apply hne; unfold hp at hn ⊢; rw [(tr.skip k (by omega) hr).2]; exact hn
          have hne : hp s i b ≠ none := by
            cases hv : (f i).1.get b with
            | none => exact absurd hv hs.2
            | some y => unfold hp; rw [ri.sub b y hv]; simp
          have h1 := hback i hji (Nat.le_refl _) hne
          have hids : b ∈ (f j).2.2.2.2 := by
            refine Classical.byContradiction fun hn => h1 ?_
            unfold hp
            rw [rj.heap hlj b, if_neg hn, if_neg]
            · exact hwf j (by omega) b e.1
            · rintro ⟨q1, q2⟩; unfold Nx at e; omega
          have hown := rj.owns hlj (fun h => by rw [h] at hids; cases hids)
          have hown' := (lists_mono tr (i := j + 1) (j := i) (by omega) (by omega)).1 _ hown
          exact hpre j ((ri.see hli b hs.2).2.1 j _ hown' hids)
      · obtain ⟨h1, h2, h3, h4, h5⟩ := rj.hot hlj e.1
        by_cases l1 : (ao i).loud = 1
        · have hh := (lists_mono tr (i := j + 1) (j := i) (by omega) (by omega)).2.2 _ h4
          exact hpre j ((((ri.see hli b hs.2).2.2 l1).1 j _ hh).resolve_right fun hne => hne e.2.symm)
        · exact hpre j (tr.dk.beside i j _ _ oi oj hji (by rw [h1]; exact (besides3 tr li l1).2))
end
end
end Go.Am

namespace Go.Am

open Classical in
/-- one more than the last operation of S that touches b -/
noncomputable def kS (ao : Nat → AOper) (s : Nat → Env × DSt) (f : RanF) (S : Nat → Prop) (b : Nat) : Nat → Nat
  | 0 => 0
  | m + 1 => if S m ∧ tch ao s f m b then m + 1 else kS ao s f S b m

section
variable {ao : Nat → AOper} {s : Nat → Env × DSt} {f : RanF} {S : Nat → Prop}
theorem kS_le (b : Nat) : ∀ n, kS ao s f S b n ≤ n
  | 0 => Nat.le_refl _
  | m + 1 => by
    unfold kS
    split
    · exact Nat.le_refl _
    · exact Nat.le_trans (kS_le b m) (Nat.le_succ _)
theorem kS_gt (b : Nat) : ∀ n j, j < n → S j → tch ao s f j b → j < kS ao s f S b n
  | 0, j, h, _, _ => by omega
  | m + 1, j, h, hS, ht => by
    unfold kS
    split
    · exact h
    · rename_i hn
      by_cases e : j = m
      · subst e; exact absurd ⟨hS, ht⟩ hn
      · exact kS_gt b m j (by omega) hS ht
theorem kS_is (b : Nat) : ∀ n, kS ao s f S b n = 0 ∨ ∃ j, j < n ∧ kS ao s f S b n = j + 1 ∧ S j ∧ tch ao s f j b
  | 0 => .inl rfl
  | m + 1 => by
    unfold kS
    split
    · rename_i h; exact .inr ⟨m, by omega, rfl, h.1, h.2⟩
    · rcases kS_is b m with e | ⟨j, a, c, d⟩
      · exact .inl e
      · exact .inr ⟨j, by omega, c, d⟩
theorem kS_uniq {b n k : Nat} (h1 : ∀ j, j < n → S j → tch ao s f j b → j < k) (h2 : k = 0 ∨ ∃ j, j < n ∧ k = j + 1 ∧ S j ∧ tch ao s f j b) : kS ao s f S b n = k := by
  rcases kS_is (ao := ao) (s := s) (f := f) (S := S) b n with e | ⟨j, a, c, d, t⟩
  · rcases h2 with e' | ⟨j', a', c', d', t'⟩
    · omega
    · have := kS_gt (ao := ao) (s := s) (f := f) (S := S) b n j' a' d' t'; omega
  · have := h1 j a d t
    rcases h2 with e' | ⟨j', a', c', d', t'⟩
    · omega
    · have := kS_gt (ao := ao) (s := s) (f := f) (S := S) b n j' a' d' t'; omega
end

section
variable {ti : TypeId → Option TypeInfo} {sk : TypeId → Bool} {X : Ctx} {call : CallT} {ops : Array Oper} {ao : Nat → AOper} {s : Nat → Env × DSt} {f : RanF}

/-- what holds when the operations S are done -/
structure Inv (ops : Array Oper) (ao : Nat → AOper) (s : Nat → Env × DSt) (f : RanF) (nt : Nat) (df : List Deferred) (μ0 : Mp) (w0 : World) (S : Nat → Prop) (μ : Mp) (a : Act) (w : World) : Prop where
  closed : ∀ j, j < ops.size → S j → ∀ k, Nat.testBit (ao j).preds k = true → S k
  dom : ∀ b y, μ b = some y → b < Nx s 0 ∨ ∃ j, j < ops.size ∧ S j ∧ Nx s j ≤ b ∧ b < Nx s (j + 1)
  live : ∀ b x, hp s (kS ao s f S b ops.size) b = some x → ∃ B lim, μ b = some (B, lim) ∧ BlkRel (cut μ (Nx s (kS ao s f S b ops.size))) x lim w.heap[B]?
  inj : ∀ b b' x x' B l l', hp s (kS ao s f S b ops.size) b = some x → hp s (kS ao s f S b' ops.size) b' = some x' → μ b = some (B, l) → μ b' = some (B, l') → b = b'
  W : ∀ L, S L → L < ops.size → ran ao s L → (ao L).lonely = true → ∀ b, Nx s (L + 1) ≤ b → hp s (L + 1) b = none
  envW : ∀ i, i < ops.size → S i → ∀ t v, (ao i).dst = some t → (s (i + 1)).1.get t = some v → t < a.tmps.size ∧ Rel (cut μ (Nx s (i + 1))) v (a.tmps.getD t undef)
  envO : ∀ t v, (∀ i, i < ops.size → S i → (ao i).dst ≠ some t) → (s 0).1.get t = some v → t < a.tmps.size ∧ Rel (cut μ (Nx s 0)) v (a.tmps.getD t undef)
  old : ∀ b, b < Nx s 0 → μ b = μ0 b
  size : w0.heap.size ≤ w.heap.size
  M : ∃ M : Nat → Prop, (∀ b, M b → (s ops.size).2.lo ≤ b) ∧
    (∀ B, B < w0.heap.size → (∀ b x lim, hp s 0 b = some x → μ0 b = some (B, lim) → ¬ M b) → w.heap[B]? = w0.heap[B]?) ∧
    (∀ b B lim, Nx s 0 ≤ b → μ b = some (B, lim) → w0.heap.size ≤ B ∨ ∃ b0 x lim0, hp s 0 b0 = some x ∧ μ0 b0 = some (B, lim0) ∧ M b0)
  keep : ∀ b x, b < Nx s 0 → hp s (kS ao s f S b ops.size) b = some x → ∃ x0, hp s 0 b = some x0
  sz : a.tmps.size = nt
  df : a.defers = df
  out : SameOut w0 w

variable (tr : Tr ti sk X call ops ao s f)
include tr

/-- the last writer of a block that is seen -/
theorem sees_content {S : Nat → Prop} {i b : Nat} (hi : i < ops.size) (hni : ¬ S i) (hcl : ∀ j, j < ops.size → S j → ∀ k, Nat.testBit (ao j).preds k = true → S k) (hpre : ∀ k, Nat.testBit (ao i).preds k = true → S k)
    (hwf : ∀ k, k ≤ i → ∀ b, Nx s k ≤ b → hp s k b = none) (hs : sees ao s f i b) : kS ao s f S b ops.size ≤ i ∧ hp s (kS ao s f S b ops.size) b = hp s i b ∧ b < Nx s i := by
  have ri := tr.did i hi hs.1
  have hb : b < Nx s i := by
    rcases Nat.lt_or_ge b (Nx s i) with h | h
    · exact h
    · cases hv : (f i).1.get b with
      | none => exact absurd hv hs.2
      | some y => have := ri.sub b y hv; have h2 := hwf i (Nat.le_refl _) b h; unfold hp at h2; rw [this] at h2; cases h2
  have hafter : ∀ j, j < ops.size → S j → tch ao s f j b → j < i := by
    intro j hj hSj ht
    rcases Nat.lt_trichotomy j i with h | h | h
    · exact h
    · subst h; exact absurd hSj hni
    · exact absurd (hcl j hj hSj i (touch_after tr hj h hs hb ht)) hni
  have hk : kS ao s f S b ops.size ≤ i := by
    rcases kS_is (ao := ao) (s := s) (f := f) (S := S) b ops.size with e | ⟨j, a, c, d, t⟩
    · omega
    · have := hafter j a d t; omega
  refine ⟨hk, (hp_frames tr hk (by omega) fun j h1 h2 ht => ?_).symm, hb⟩
  have hSj := touch_before tr hi hcl hpre hwf hs h2 ht
  have := kS_gt (ao := ao) (s := s) (f := f) (S := S) b ops.size j (by omega) hSj ht
  omega

/-- of two operations that touch the same, the later comes after -/
theorem touch_touch {S : Nat → Prop} {i j b : Nat} (hj : j < ops.size) (hij : i < j) (hSj : S j) (hni : ¬ S i) (hcl : ∀ j, j < ops.size → S j → ∀ k, Nat.testBit (ao j).preds k = true → S k)
    (hwf : ∀ k, k ≤ j → ∀ b, Nx s k ≤ b → hp s k b = none) (h1 : tch ao s f i b) (h2 : tch ao s f j b) : False := by
  have hi : i < ops.size := by omega
  have oi := Array.getElem?_eq_getElem hi
  have oj := Array.getElem?_eq_getElem hj
  have li := tch_loud tr hi h1
  have lj := tch_loud tr hj h2
  have hlone : ((ao j).lonely = true ∨ (ao i).lonely = true) → False := fun h => hni (hcl j hj hSj i (tr.dk.lone j i _ _ oj oi hij lj li h))
  cases hlj : (ao j).lonely with
  | true => exact hlone (.inl hlj)
  | false =>
    cases hli : (ao i).lonely with
    | true => exact hlone (.inr hli)
    | false =>
      have ri := tr.did i hi h1.1
      have rj := tr.did j hj h2.1
      have hm := nx_mono tr (i := i + 1) (j := j) (by omega) (by omega)
      have hm0 := nx_step tr hi
      rcases h2.2 with e | e | e
      · rw [hlj] at e; cases e
      · rcases h1.2 with e' | e' | e'
        · rw [hli] at e'; cases e'
        · omega
        · omega
      · obtain ⟨g1, g2, g3, g4, g5⟩ := rj.hot hlj e.1
        have hsj : sees ao s f j b := ⟨h2.1, by rw [e.2]; exact g2⟩
        exact hni (touch_before tr hj hcl (hcl j hj hSj) hwf hsj hij h1)
end
end Go.Am

namespace Go.Am
theorem BlkRel.lt {μ : Mp} {x : Blk} {lim B : Nat} {w : World} (h : BlkRel μ x lim w.heap[B]?) : B < w.heap.size := by
  rcases Nat.lt_or_ge B w.heap.size with h' | h'
  · exact h'
  · rw [Array.getElem?_eq_none h'] at h
    cases x <;> simp [BlkRel] at h
theorem put_getD_same {a : Act} {d : Nat} {v : Value} (h : d < a.tmps.size) : (a.put (some d) v).tmps.getD d undef = v := by simp [Act.put, Array.getD, h]
theorem put_getD_ne {a : Act} {dst : Option Nat} {t : Nat} {v : Value} (h : dst ≠ some t) : (a.put dst v).tmps.getD t undef = a.tmps.getD t undef := by
  cases dst with
  | none => rfl
  | some d =>
    have : d ≠ t := fun e => h (by rw [e])
    simp only [Act.put]
    rw [Array.getD_eq_getD_getElem?, Array.getD_eq_getD_getElem?, Array.getElem?_setIfInBounds_ne this]

section
variable {ti : TypeId → Option TypeInfo} {sk : TypeId → Bool} {X : Ctx} {call : CallT} {ops : Array Oper} {ao : Nat → AOper} {s : Nat → Env × DSt} {f : RanF}
variable {nt : Nat} {df : List Deferred} {μ0 μ : Mp} {w0 w : World} {S : Nat → Prop} {a : Act}
variable (tr : Tr ti sk X call ops ao s f)
include tr

theorem dst_ne {i j t : Nat} (hi : i < ops.size) (hj : j < ops.size) (h : i ≠ j) (hd : (ao i).dst = some t) : (ao j).dst ≠ some t := by
  have oi := Array.getElem?_eq_getElem hi
  have oj := Array.getElem?_eq_getElem hj
  rw [(tr.dk.is i _ oi).1] at hd
  rw [(tr.dk.is j _ oj).1]
  rcases Nat.lt_or_gt_of_ne h with h | h
  · intro e; exact (tr.dk.slots j i _ _ oj oi h).1 t e hd
  · exact (tr.dk.slots i j _ _ oi oj h).1 t hd

theorem inv_wf (h0 : ∀ b, Nx s 0 ≤ b → hp s 0 b = none) (inv : Inv ops ao s f nt df μ0 w0 S μ a w) {i : Nat} (hi : i < ops.size) (hl : (ao i).loud ≠ 0) (hpre : ∀ k, Nat.testBit (ao i).preds k = true → S k) :
    ∀ k, k ≤ i → ∀ b, Nx s k ≤ b → hp s k b = none := fun k hk => by
  refine wf_upto tr (fun _ _ _ _ _ _ => trivial) inv.W h0 k (by omega) fun L hL hr hlo => ?_
  have oi := Array.getElem?_eq_getElem hi
  have oL := Array.getElem?_eq_getElem (show L < ops.size by omega)
  exact hpre L (tr.dk.lone i L _ _ oi oL (by omega) hl ((tr.dk.is L _ oL).2.2.2.2.2 hlo) (.inr hlo))

theorem inv_step (h0 : ∀ b, Nx s 0 ≤ b → hp s 0 b = none) (inv : Inv ops ao s f nt df μ0 w0 S μ a w) {i : Nat} (hi : i < ops.size) (hni : ¬ S i) (hpre : ∀ k, Nat.testBit (ao i).preds k = true → S k) (hran : ran ao s i)
    {μ' : Mp} {w' : World} {v' : Value} {M : Nat → Prop} (st : Step M (cut μ (Nx s i)) w { heap := (f i).1, next := Nx s i, lo := (f i).2.1 } μ' w' (sg f i)) (hr : Rel μ' (f i).2.2.1 v')
    (hM : (ao i).loud = 3 → ∀ b, M b → (sg f i).lo = min b (f i).2.1) (hdst : ∀ d, (ao i).dst = some d → d < nt) :
    ∃ μ'', Inv ops ao s f nt df μ0 w0 (fun j => S j ∨ j = i) μ'' (a.put (ao i).dst v') w' := by
  have ri := tr.did i hi hran
  have hN' : (sg f i).next = Nx s (i + 1) := ri.next.symm
  have hm1 := nx_step tr hi
  have hm0 := nx_mono tr (i := 0) (j := i) (by omega) (by omega)
  -- nothing of the interval was there
  have hnone : ∀ b, Nx s i ≤ b → b < Nx s (i + 1) → μ b = none := by
    intro b h1 h2
    cases hμ : μ b with
    | none => rfl
    | some y =>
      rcases inv.dom b y hμ with h | ⟨j, hj, hSj, h3, h4⟩
      · omega
      · rcases Nat.lt_trichotomy j i with h | h | h
        · have := nx_mono tr (i := j + 1) (j := i) (by omega) (by omega); omega
        · subst h; exact absurd hSj hni
        · have := nx_mono tr (i := i + 1) (j := j) (by omega) (by omega); omega
  let μ'' : Mp := fun b => if Nx s i ≤ b ∧ b < Nx s (i + 1) then μ' b else μ b
  have hin : ∀ b, Nx s i ≤ b → b < Nx s (i + 1) → μ'' b = μ' b := fun b h1 h2 => if_pos ⟨h1, h2⟩
  have hout : ∀ b, ¬ (Nx s i ≤ b ∧ b < Nx s (i + 1)) → μ'' b = μ b := fun b h => if_neg h
  have hold : ∀ b, b < Nx s i → μ' b = μ b := fun b hb => by rw [st.old b hb, cut_lt hb]
  have hcut : cut μ'' (Nx s (i + 1)) = μ' := by
    funext b
    by_cases hb : b < Nx s (i + 1)
    · rw [cut_lt hb]
      by_cases h1 : Nx s i ≤ b
      · exact hin b h1 hb
      · rw [hout b (by omega), hold b (by omega)]
    · have : cut μ'' (Nx s (i + 1)) b = none := by simp [cut, hb]
      rw [this, st.ok.free b (by rw [hN']; omega)]
  have hext : ∀ k, Ext (cut μ k) (cut μ'' k) := by
    intro k b y hy
    obtain ⟨h1, h2⟩ := cut_some hy
    rw [cut_lt h1, hout b (fun h => by rw [hnone b h.1 h.2] at h2; cases h2)]
    exact h2
  have hextμ : Ext μ μ'' := by
    intro b y hy
    rw [hout b (fun h => by rw [hnone b h.1 h.2] at hy; cases hy)]
    exact hy
  have hwfi : ∀ b, sees ao s f i b ∨ tch ao s f i b → ∀ k, k ≤ i → ∀ b, Nx s k ≤ b → hp s k b = none := fun b h =>
    inv_wf tr h0 inv hi (h.elim (sees_loud tr hi) (tch_loud tr hi)) hpre
  have hcont : ∀ b x, (f i).1.get b = some x → hp s (kS ao s f S b ops.size) b = some x ∧ b < Nx s i := fun b x hx => by
    have hs : sees ao s f i b := ⟨hran, by rw [hx]; simp⟩
    obtain ⟨h1, h2, h3⟩ := sees_content tr hi hni inv.closed hpre (hwfi b (.inl hs)) hs
    exact ⟨by rw [h2]; exact ri.sub b x hx, h3⟩
  -- what is seen and not touched is not written
  have hnotM : ∀ b x, (f i).1.get b = some x → ¬ tch ao s f i b → ¬ M b := by
    intro b x hx ht hMb
    have hb := (hcont b x hx).2
    have hml := st.mlo b hMb
    cases hl : (ao i).lonely with
    | true => exact ht ⟨hran, .inl hl⟩
    | false =>
      have hlt : (sg f i).lo < Nx s i := by omega
      obtain ⟨l3, _⟩ := ri.hot hl hlt
      have := hM l3 b hMb
      rw [ri.nlone hl] at this
      have e : b = (sg f i).lo := by rw [this]; unfold Nx at hb; omega
      exact ht ⟨hran, .inr (.inr ⟨hlt, e⟩)⟩
  have hsame : ∀ b x B l, ¬ tch ao s f i b → hp s (kS ao s f S b ops.size) b = some x → μ b = some (B, l) → w'.heap[B]? = w.heap[B]? := by
    intro b x B l ht hx hμ
    obtain ⟨B1, l1, e1, e2⟩ := inv.live b x hx
    rw [hμ] at e1; cases e1
    refine st.fr B e2.lt fun c y l' hc hμc hMc => ?_
    obtain ⟨g1, g2⟩ := hcont c y hc
    have : c = b := inv.inj c b y x B l' l g1 hx (cut_some hμc).2 hμ
    subst this
    exact hnotM c y hc ht hMc
  have hafter : ∀ b x, tch ao s f i b → hp s (i + 1) b = some x → (sg f i).heap.get b = some x := by
    intro b x ht hx
    cases hl : (ao i).lonely with
    | true => rw [← (ri.lone hl).2.1]; exact hx
    | false =>
      have hh := ri.heap hl b
      unfold hp at hx
      rw [hx] at hh
      split at hh
      · exact hh.symm
      · split at hh
        · exact hh.symm
        · rename_i h1 h2
          rcases ht.2 with e | e | e
          · rw [hl] at e; cases e
          · have := hwfi b (.inr ht) i (Nat.le_refl _) b e.1
            unfold hp at this; rw [this] at hh; cases hh
          · exact absurd e h2
  have hkin : ∀ b, tch ao s f i b → kS ao s f (fun j => S j ∨ j = i) b ops.size = i + 1 := by
    intro b ht
    refine kS_uniq (fun j hj hSj htj => ?_) (.inr ⟨i, hi, rfl, .inr rfl, ht⟩)
    rcases hSj with hSj | e
    · rcases Nat.lt_trichotomy j i with h | h | h
      · omega
      · omega
      · exact (touch_touch tr hj h hSj hni inv.closed (inv_wf tr h0 inv hj (tch_loud tr hj htj) (inv.closed j hj hSj)) ht htj).elim
    · omega
  have hkout : ∀ b, ¬ tch ao s f i b → kS ao s f (fun j => S j ∨ j = i) b ops.size = kS ao s f S b ops.size := by
    intro b ht
    refine kS_uniq (fun j hj hSj htj => ?_) ?_
    · rcases hSj with hSj | e
      · exact kS_gt b _ j hj hSj htj
      · subst e; exact absurd htj ht
    · rcases kS_is (ao := ao) (s := s) (f := f) (S := S) b ops.size with e | ⟨j, h1, h2, h3, h4⟩
      · exact .inl e
      · exact .inr ⟨j, h1, h2, .inl h3, h4⟩
  have hμ''' : ∀ b y, μ' b = some y → μ'' b = some y ∧ b < Nx s (i + 1) := fun b y hy => by
    rw [← hcut] at hy
    exact ⟨(cut_some hy).2, (cut_some hy).1⟩
  have hback : ∀ b, ¬ tch ao s f i b → μ'' b = μ b := fun b ht => hout b fun h => ht ⟨hran, .inr (.inl h)⟩
  -- a touched block and one that is not
  have hmix : ∀ b b' x x' B l l', tch ao s f i b → ¬ tch ao s f i b' → (sg f i).heap.get b = some x → hp s (kS ao s f S b' ops.size) b' = some x' → μ' b = some (B, l) → μ b' = some (B, l') → False := by
    intro b b' x x' B l l' ht ht' hx hx' hμb hμb'
    obtain ⟨B1, l1, e1, e2⟩ := inv.live b' x' hx'
    rw [hμb'] at e1; cases e1
    rcases Nat.lt_or_ge b (Nx s i) with hlt | hge
    · obtain ⟨y, hy⟩ := st.keep b x hlt hx
      have : b = b' := inv.inj b b' y x' B l l' (hcont b y hy).1 hx' (by rw [← hold b hlt]; exact hμb) hμb'
      subst this; exact ht' ht
    · rcases st.fresh b B l hge hμb with h | ⟨c, y, lc, hc, hμc, hMc⟩
      · have := e2.lt; omega
      · have : c = b' := inv.inj c b' y x' B lc l' (hcont c y hc).1 hx' (cut_some hμc).2 hμb'
        subst this; exact hnotM c y hc ht' hMc
  have hsz : (a.put (ao i).dst v').tmps.size = a.tmps.size := put_size ..
  refine ⟨μ'', {
    closed := ?_, dom := ?_, live := ?_, inj := ?_, W := ?_, envW := ?_, envO := ?_, old := ?_, size := ?_, M := ?_, keep := ?_, sz := ?_, df := ?_, out := inv.out.trans st.out }⟩
  · -- closed
    intro j hj hSj k hk
    rcases hSj with h | h
    · exact .inl (inv.closed j hj h k hk)
    · subst h; exact .inl (hpre k hk)
  · -- dom
    intro b y hy
    by_cases hb : Nx s i ≤ b ∧ b < Nx s (i + 1)
    · exact .inr ⟨i, hi, .inr rfl, hb⟩
    · rw [hout b hb] at hy
      exact (inv.dom b y hy).imp id fun ⟨j, h1, h2, h3⟩ => ⟨j, h1, .inl h2, h3⟩
  · -- live
    intro b x hx
    by_cases ht : tch ao s f i b
    · rw [hkin b ht] at hx ⊢
      obtain ⟨B, lim, e1, e2⟩ := st.ok.sim.live b x (hafter b x ht hx)
      exact ⟨B, lim, (hμ''' b _ e1).1, by rw [hcut]; exact e2⟩
    · rw [hkout b ht] at hx ⊢
      obtain ⟨B, lim, e1, e2⟩ := inv.live b x hx
      exact ⟨B, lim, hextμ b _ e1, by rw [hsame b x B lim ht hx e1]; exact e2.mono (hext _)⟩
  · -- inj
    intro b b' x x' B l l' hx hx' hμb hμb'
    by_cases ht : tch ao s f i b
    · rw [hkin b ht] at hx
      have hx2 := hafter b x ht hx
      obtain ⟨B1, l1, e1, _⟩ := st.ok.sim.live b x hx2
      have e2 := (hμ''' b _ e1).1
      rw [hμb] at e2; cases e2
      by_cases ht' : tch ao s f i b'
      · rw [hkin b' ht'] at hx'
        have hx2' := hafter b' x' ht' hx'
        obtain ⟨B1, l1, e1', _⟩ := st.ok.sim.live b' x' hx2'
        have e2' := (hμ''' b' _ e1').1
        rw [hμb'] at e2'; cases e2'
        exact st.ok.sim.inj b b' x x' B l l' hx2 hx2' e1 e1'
      · rw [hkout b' ht'] at hx'
        rw [hback b' ht'] at hμb'
        exact (hmix b b' x x' B l l' ht ht' hx2 hx' e1 hμb').elim
    · rw [hkout b ht] at hx
      rw [hback b ht] at hμb
      by_cases ht' : tch ao s f i b'
      · rw [hkin b' ht'] at hx'
        have hx2' := hafter b' x' ht' hx'
        obtain ⟨B1, l1, e1', _⟩ := st.ok.sim.live b' x' hx2'
        have e2' := (hμ''' b' _ e1').1
        rw [hμb'] at e2'; cases e2'
        exact (hmix b' b x' x B l' l ht' ht hx2' hx e1' hμb).elim
      · rw [hkout b' ht'] at hx'
        rw [hback b' ht'] at hμb'
        exact inv.inj b b' x x' B l l' hx hx' hμb hμb'
  · -- W
    intro L hSL hL hrL hlL b hb
    rcases hSL with h | h
    · exact inv.W L h hL hrL hlL b hb
    · subst h
      unfold hp
      rw [(ri.lone hlL).2.1]
      cases hv : (sg f L).heap.get b with
      | none => rfl
      | some y => have := st.ok.wf b y hv; rw [hN'] at this; omega
  · -- envW
    intro j hj hSj t v hd hv
    rw [hsz]
    by_cases e : j = i
    · subst e
      have hlt : t < a.tmps.size := by rw [inv.sz]; exact hdst t hd
      rw [ri.env, hd] at hv
      simp only [putDst] at hv
      rw [T.get_set, if_pos rfl] at hv
      cases hv
      refine ⟨hlt, ?_⟩
      rw [hcut, hd, put_getD_same hlt]
      exact hr
    · obtain ⟨h1, h2⟩ := inv.envW j hj (hSj.resolve_right e) t v hd hv
      rw [put_getD_ne (dst_ne tr hj hi e hd)]
      exact ⟨h1, h2.mono (hext _)⟩
  · -- envO
    intro t v hd hv
    rw [hsz]
    obtain ⟨h1, h2⟩ := inv.envO t v (fun j hj hSj => hd j hj (.inl hSj)) hv
    rw [put_getD_ne (hd i hi (.inr rfl))]
    exact ⟨h1, h2.mono (hext _)⟩
  · -- old
    intro b hb
    rw [hout b (by omega)]
    exact inv.old b hb
  · exact Nat.le_trans inv.size st.size
  · -- M
    obtain ⟨M0, m1, m2, m3⟩ := inv.M
    refine ⟨fun b => M0 b ∨ (M b ∧ b < Nx s 0), fun b hb => ?_, fun B hB hn => ?_, fun b B lim hb hμb => ?_⟩
    · rcases hb with h | ⟨h1, h2⟩
      · exact m1 b h
      · have hml := st.mlo b h1
        have hla := lo_anti tr (i := i + 1) (j := ops.size) (by omega) (Nat.le_refl _)
        cases hl : (ao i).lonely with
        | true => have := (ri.lone hl).2.2; unfold sg at hml; omega
        | false =>
          have hlt : (sg f i).lo < Nx s i := by omega
          have := (ri.hot hl hlt).2.2.2.2
          unfold sg at hml; omega
    · rw [← m2 B hB fun b x lim h1 h2 h3 => hn b x lim h1 h2 (.inl h3)]
      refine st.fr B (Nat.lt_of_lt_of_le hB inv.size) fun c y l hc hμc hMc => ?_
      obtain ⟨g1, g2⟩ := hcont c y hc
      have hμc' := (cut_some hμc).2
      rcases Nat.lt_or_ge c (Nx s 0) with h | h
      · obtain ⟨y0, hy0⟩ := inv.keep c y h g1
        exact hn c y0 l hy0 (by rw [← inv.old c h]; exact hμc') (.inr ⟨hMc, h⟩)
      · rcases m3 c B l h hμc' with h' | ⟨b0, x0, l0, q1, q2, q3⟩
        · omega
        · exact hn b0 x0 l0 q1 q2 (.inl q3)
    · by_cases hint : Nx s i ≤ b ∧ b < Nx s (i + 1)
      · rw [hin b hint.1 hint.2] at hμb
        rcases st.fresh b B lim hint.1 hμb with h | ⟨c, y, lc, hc, hμc, hMc⟩
        · exact .inl (Nat.le_trans inv.size h)
        · obtain ⟨g1, g2⟩ := hcont c y hc
          have hμc' := (cut_some hμc).2
          rcases Nat.lt_or_ge c (Nx s 0) with h | h
          · obtain ⟨y0, hy0⟩ := inv.keep c y h g1
            exact .inr ⟨c, y0, lc, hy0, by rw [← inv.old c h]; exact hμc', .inr ⟨hMc, h⟩⟩
          · exact (m3 c B lc h hμc').imp id fun ⟨b0, x0, l0, q1, q2, q3⟩ => ⟨b0, x0, l0, q1, q2, .inl q3⟩
      · rw [hout b hint] at hμb
        exact (m3 b B lim hb hμb).imp id fun ⟨b0, x0, l0, q1, q2, q3⟩ => ⟨b0, x0, l0, q1, q2, .inl q3⟩
  · -- keep
    intro b x hb hx
    by_cases ht : tch ao s f i b
    · rw [hkin b ht] at hx
      obtain ⟨y, hy⟩ := st.keep b x (show b < Nx s i by omega) (hafter b x ht hx)
      exact inv.keep b y hb (hcont b y hy).1
    · rw [hkout b ht] at hx
      exact inv.keep b x hb hx
  · rw [hsz]; exact inv.sz
  · rw [← inv.df]; cases (ao i).dst <;> rfl
end
end Go.Am

namespace Go.Am
section
variable {P : Program} {ti : TypeId → Option TypeInfo} {sk : TypeId → Bool} {X : Ctx} {call : CallT} {ops : Array Oper} {ao : Nat → AOper} {s : Nat → Env × DSt} {f : RanF}
variable {nt : Nat} {df : List Deferred} {μ0 μ : Mp} {w0 w : World} {S : Nat → Prop} {a : Act}
variable (tr : Tr ti sk X call ops ao s f)

include tr in
theorem inv_skip (inv : Inv ops ao s f nt df μ0 w0 S μ a w) {i : Nat} (hi : i < ops.size) (hpre : ∀ k, Nat.testBit (ao i).preds k = true → S k) (hran : ¬ ran ao s i) (hdst : ∀ d, (ao i).dst = some d → d < nt) :
    Inv ops ao s f nt df μ0 w0 (fun j => S j ∨ j = i) μ (a.put (ao i).dst undef) w := by
  have hk : ∀ b, kS ao s f (fun j => S j ∨ j = i) b ops.size = kS ao s f S b ops.size := by
    intro b
    refine kS_uniq (fun j hj hSj htj => ?_) ?_
    · rcases hSj with hSj | e
      · exact kS_gt b _ j hj hSj htj
      · subst e; exact absurd htj.1 hran
    · rcases kS_is (ao := ao) (s := s) (f := f) (S := S) b ops.size with e | ⟨j, h1, h2, h3, h4⟩
      · exact .inl e
      · exact .inr ⟨j, h1, h2, .inl h3, h4⟩
  have hsz : (a.put (ao i).dst undef).tmps.size = a.tmps.size := put_size ..
  exact {
    closed := (fun j hj hSj k hkk => by
      rcases hSj with h | h
      · exact .inl (inv.closed j hj h k hkk)
      · subst h; exact .inl (hpre k hkk)),
    dom := (fun b y hy => (inv.dom b y hy).imp id fun ⟨j, h1, h2, h3⟩ => ⟨j, h1, .inl h2, h3⟩),
    live := (fun b x hx => by rw [hk] at hx ⊢; exact inv.live b x hx),
    inj := (fun b b' x x' B l l' hx hx' => by rw [hk] at hx hx'; exact inv.inj b b' x x' B l l' hx hx'),
    W := (fun L hSL hL hrL hlL => by
      rcases hSL with h | h
      · exact inv.W L h hL hrL hlL
      · subst h; exact absurd hrL hran),
    envW := (fun j hj hSj t v hd hv => by
      rw [hsz]
      by_cases e : j = i
      · subst e
        have hlt : t < a.tmps.size := by rw [inv.sz]; exact hdst t hd
        rw [(tr.skip j hi hran).2, hd] at hv
        simp only [putDst] at hv
        rw [T.get_set, if_pos rfl] at hv
        cases hv
        refine ⟨hlt, ?_⟩
        rw [hd, put_getD_same hlt]
        exact .tuple .nil
      · obtain ⟨h1, h2⟩ := inv.envW j hj (hSj.resolve_right e) t v hd hv
        rw [put_getD_ne (dst_ne tr hj hi e hd)]
        exact ⟨h1, h2⟩),
    envO := (fun t v hd hv => by
      rw [hsz]
      obtain ⟨h1, h2⟩ := inv.envO t v (fun j hj hSj => hd j hj (.inl hSj)) hv
      rw [put_getD_ne (hd i hi (.inr rfl))]
      exact ⟨h1, h2⟩),
    old := inv.old, size := inv.size, M := inv.M, out := inv.out,
    keep := (fun b x hb hx => by rw [hk] at hx; exact inv.keep b x hb hx),
    sz := (by rw [hsz]; exact inv.sz), df := (by rw [← inv.df]; cases (ao i).dst <;> rfl) }

include tr in
/-- a slot that operation i looks at -/
theorem inv_env (inv : Inv ops ao s f nt df μ0 w0 S μ a w) {i : Nat} (hi : i < ops.size) (hni : ¬ S i) (hpre : ∀ k, Nat.testBit (ao i).preds k = true → S k) {o : Oper} (ho : ops[i]? = some o) {t : Nat} (hl : looked o (ao i).guard t) {v : Value} (hv : (s i).1.get t = some v) :
    t < a.tmps.size ∧ Rel (cut μ (Nx s i)) v (a.tmps.getD t undef) := by
  have hm0 := nx_mono tr (i := 0) (j := i) (by omega) (by omega)
  have free : (∀ j, j < i → (ao j).dst ≠ some t) → (∀ j, j < ops.size → S j → (ao j).dst ≠ some t) → t < a.tmps.size ∧ Rel (cut μ (Nx s i)) v (a.tmps.getD t undef) := by
    intro h1 h2
    have := env_frames tr (k := 0) (i := i) (t := t) (by omega) (by omega) fun j _ h => h1 j h
    rw [this] at hv
    obtain ⟨a1, a2⟩ := inv.envO t v h2 hv
    exact ⟨a1, a2.mono (cut_le hm0)⟩
  by_cases hex : ∃ j, j < ops.size ∧ (ao j).dst = some t
  · obtain ⟨j, hj, hd⟩ := hex
    have oj := Array.getElem?_eq_getElem hj
    rcases Nat.lt_or_ge j i with h | h
    · have hSj : S j := by
        have hdj := hd
        rw [(tr.dk.is j _ oj).1] at hdj
        rcases (tr.dk.slots i j _ _ ho oj h).2 with h' | h'
        · exact hpre j h'
        · exact absurd hl (h'.1 t hdj)
      have := env_frames tr (k := j + 1) (i := i) (t := t) (by omega) (by omega) fun k h1 h2 => dst_ne tr hj (by omega) (by omega) hd
      rw [this] at hv
      obtain ⟨a1, a2⟩ := inv.envW j hj hSj t v hd hv
      exact ⟨a1, a2.mono (cut_le (nx_mono tr (by omega) (by omega)))⟩
    · have hnS : ¬ S j := by
        intro hSj
        rcases Nat.lt_or_eq_of_le h with h' | h'
        · have hdj := hd
          rw [(tr.dk.is j _ oj).1] at hdj
          rcases (tr.dk.slots j i _ _ oj ho h').2 with q | q
          · exact hni (inv.closed j hj hSj i q)
          · exact q.2 t hdj hl
        · subst h'; exact hni hSj
      refine free (fun k hk => dst_ne tr hj (by omega) (by omega) hd) fun k hk hSk hdk => ?_
      by_cases e : k = j
      · subst e; exact hnS hSk
      · exact dst_ne tr hk hj e hdk hd
  · exact free (fun j hj h => hex ⟨j, by omega, h⟩) fun j hj _ h => hex ⟨j, hj, h⟩

include tr in
theorem inv_op (T : TOk P ti sk) (hL : ∀ e n o u, X.L e n o u = true → liesAt P P.depth e (n / P.cellsOf e) o u 1 = true) (hc : CallSound P X call) {Q : Exit → Act → World → Prop}
    (h0 : ∀ b, Nx s 0 ≤ b → hp s 0 b = none) (hg : GRel X.G μ0) (hg0 : ∀ b y, μ0 b = some y → b < Nx s 0) (inv : Inv ops ao s f nt df μ0 w0 S μ a w) {i : Nat} {o : Oper} (ho : ops[i]? = some o) (hni : ¬ S i) (hpre : ∀ k, Nat.testBit (ao i).preds k = true → S k)
    (hdst : ∀ d, o.dst = some d → d < nt) {K : Act → World → Prop} (hK : ∀ μ' a' w', Inv ops ao s f nt df μ0 w0 (fun j => S j ∨ j = i) μ' a' w' → K a' w') : wpOp P ops Q i K a w := by
  have hi := (Array.getElem?_eq_some_iff.1 ho).1
  obtain ⟨k1, k2, k3, k4, k5, k6⟩ := tr.dk.is i o ho
  have hgs : ∀ b, guardOk (s i).1 (ao i).guard = some b → Region.wanted o (yielded ops a.tmps) = b := fun b hb =>
    guard_spec (μ := cut μ (Nx s i)) (fun t c e v hv => inv_env tr inv hi hni hpre ho (.inr ⟨c, e⟩) hv) k2 hb
  unfold wpOp
  simp only [ho]
  by_cases hran : ran ao s i
  · rw [hgs true hran]
    simp only [if_true]
    left
    have ri := tr.did i hi hran
    obtain ⟨ids0, hrun⟩ := ri.run
    rw [k3] at hrun
    have hwfi : ∀ b, sees ao s f i b → ∀ k, k ≤ i → ∀ b, Nx s k ≤ b → hp s k b = none := fun b h => inv_wf tr h0 inv hi (sees_loud tr hi h) hpre
    have hcont : ∀ b x, (f i).1.get b = some x → kS ao s f S b ops.size ≤ i ∧ hp s (kS ao s f S b ops.size) b = some x ∧ b < Nx s i := fun b x hx => by
      have hs : sees ao s f i b := ⟨hran, by rw [hx]; simp⟩
      obtain ⟨h1, h2, h3⟩ := sees_content tr hi hni inv.closed hpre (hwfi b hs) hs
      exact ⟨h1, by rw [h2]; exact ri.sub b x hx, h3⟩
    have okc : Ok (cut μ (Nx s i)) w { heap := (f i).1, next := Nx s i, lo := (f i).2.1 } := by
      refine ⟨⟨fun b x hx => ?_, fun b b' x x' B l l' hx hx' h1 h2 => ?_⟩, fun b x hx => (hcont b x hx).2.2, fun b hb => by simp only at hb; simp [cut]; omega⟩
      · obtain ⟨q1, q2, q3⟩ := hcont b x hx
        obtain ⟨B, lim, e1, e2⟩ := inv.live b x q2
        exact ⟨B, lim, by rw [cut_lt q3]; exact e1, e2.mono (cut_le (nx_mono tr q1 (by omega)))⟩
      · exact inv.inj b b' x x' B l l' (hcont b x hx).2.1 (hcont b' x' hx').2.1 (cut_some h1).2 (cut_some h2).2
    have hm0 := nx_mono tr (i := 0) (j := i) (by omega) (by omega)
    have hgc : GRel X.G (cut μ (Nx s i)) := fun g b hb => by
      obtain ⟨lim, hl⟩ := hg g b hb
      have := hg0 b _ hl
      exact ⟨lim, by rw [cut_lt (by omega), inv.old b this]; exact hl⟩
    classical
    refine runOp_sound (D := fun x => decide (okOpd x = true ∧ x ∈ o.op.operands)) T hL hc okc hgc (fun h => ?_) ?_ hrun fun μ' w' v' M st r hM => ?_
    · rw [Array.all_eq_true_iff_forall_mem] at h ⊢
      intro x hx
      simp [h x hx, hx]
    · intro x hx v hv
      have hx := of_decide_eq_true hx
      cases x with
      | tmp t => exact (inv_env tr inv hi hni hpre ho (.inl hx.2) hv).2
      | const c =>
        simp only [Go.Am.opd, ev, Option.some.injEq] at hv
        subst hv
        exact Rel.closedC hx.1
      | global g =>
        simp only [Go.Am.opd, ev] at hv
        cases hb : X.G g with
        | none => rw [hb] at hv; cases hv
        | some b =>
          rw [hb] at hv; cases hv
          obtain ⟨lim, hl⟩ := hgc g b hb
          exact .ptr hl
      | func g =>
        simp only [Go.Am.opd, ev, Option.some.injEq] at hv
        subst hv
        exact .func .nil .nil
    · obtain ⟨μ'', h⟩ := inv_step tr h0 inv hi hni hpre hran st r (fun h3 => hM (by rw [← k3, ← k4]; exact h3)) (by rw [k1]; exact hdst)
      rw [k1] at h
      exact hK μ'' _ _ h
  · have hsk := tr.skip i hi hran
    rw [hgs false hsk.1]
    simp only [Bool.false_eq_true, if_false]
    have := inv_skip tr inv hi hpre hran (by rw [k1]; exact hdst)
    rw [k1] at this
    exact hK μ _ _ this
end
end Go.Am

namespace Go.Am
section
variable {P : Program} {ti : TypeId → Option TypeInfo} {sk : TypeId → Bool} {X : Ctx} {call : CallT} {ops : Array Oper} {ao : Nat → AOper} {s : Nat → Env × DSt} {f : RanF}
variable {nt : Nat} {df : List Deferred} {μ0 μ : Mp} {w0 w : World} {a : Act}

theorem kS_none {S : Nat → Prop} (h : ∀ j, ¬ S j) (b n : Nat) : kS ao s f S b n = 0 :=
  kS_uniq (fun j _ hj _ => absurd hj (h j)) (.inl rfl)

theorem inv_init {σ0 : St} {env : Env} {S : Nat → Prop} (hS : ∀ j, ¬ S j) (ok : Ok μ0 w0 σ0) (he : EnvRel env μ0 a.tmps) (hs : s 0 = (env, { heap := σ0.heap, next := σ0.next, lo := σ0.lo, own := [], rd := [], hot := [] })) :
    Inv ops ao s f a.tmps.size a.defers μ0 w0 S μ0 a w0 := by
  have hN : Nx s 0 = σ0.next := by unfold Nx; rw [hs]
  have hh : ∀ b, hp s 0 b = σ0.heap.get b := fun b => by unfold hp; rw [hs]
  have hcut : cut μ0 (Nx s 0) = μ0 := by
    funext b
    unfold cut
    split
    · rfl
    · rw [ok.free b (by omega)]
  exact {
    closed := (fun j _ h => absurd h (hS j)),
    dom := (fun b y hy => .inl (by
      rcases Nat.lt_or_ge b (Nx s 0) with h | h
      · exact h
      · rw [ok.free b (by omega)] at hy; cases hy)),
    live := (fun b x hx => by
      rw [kS_none hS] at hx ⊢
      rw [hh] at hx
      rw [hcut]
      exact ok.sim.live b x hx),
    inj := (fun b b' x x' B l l' hx hx' => by
      rw [kS_none hS, hh] at hx hx'
      exact ok.sim.inj b b' x x' B l l' hx hx'),
    W := (fun L h => absurd h (hS L)),
    envW := (fun j _ h => absurd h (hS j)),
    envO := (fun t v _ hv => by
      rw [hs] at hv
      obtain ⟨h1, h2⟩ := he t v hv
      exact ⟨h1, by rw [hcut]; exact h2⟩),
    old := fun _ _ => rfl, size := Nat.le_refl _, out := .refl _,
    M := ⟨fun _ => False, fun _ h => h.elim, fun _ _ _ => rfl, fun b B lim hb hμ => by rw [ok.free b (by omega)] at hμ; cases hμ⟩,
    keep := (fun b x _ hx => by rw [kS_none hS] at hx; exact ⟨x, hx⟩),
    sz := rfl, df := rfl }

variable (tr : Tr ti sk X call ops ao s f)
include tr

theorem inv_done {σ0 : St} {env : Env} {S : Nat → Prop} (hS : ∀ j, j < ops.size → S j) (ok : Ok μ0 w0 σ0) (hs : s 0 = (env, { heap := σ0.heap, next := σ0.next, lo := σ0.lo, own := [], rd := [], hot := [] }))
    (inv : Inv ops ao s f nt df μ0 w0 S μ a w) : Went μ0 w0 σ0 μ w { heap := (s ops.size).2.heap, next := (s ops.size).2.next, lo := (s ops.size).2.lo } ∧ EnvRel (s ops.size).1 μ a.tmps := by
  have hN : Nx s 0 = σ0.next := by unfold Nx; rw [hs]
  have hh : ∀ b, hp s 0 b = σ0.heap.get b := fun b => by unfold hp; rw [hs]
  have hlo : (s 0).2.lo = σ0.lo := by rw [hs]
  have hk : ∀ b, hp s (kS ao s f S b ops.size) b = hp s ops.size b := fun b =>
    (hp_frames tr (kS_le b _) (Nat.le_refl _) fun j h1 h2 ht => by have := kS_gt (ao := ao) (s := s) (f := f) (S := S) b ops.size j h2 (hS j h2) ht; omega).symm
  have hdom : ∀ b y, μ b = some y → b < Nx s ops.size := fun b y hy => by
    rcases inv.dom b y hy with h | ⟨j, hj, _, _, h⟩
    · have := nx_mono tr (i := 0) (j := ops.size) (by omega) (Nat.le_refl _); omega
    · have := nx_mono tr (i := j + 1) (j := ops.size) (by omega) (Nat.le_refl _); omega
  have live : ∀ b x, hp s ops.size b = some x → ∃ B lim, μ b = some (B, lim) ∧ BlkRel μ x lim w.heap[B]? := fun b x hx => by
    obtain ⟨B, lim, e1, e2⟩ := inv.live b x (by rw [hk]; exact hx)
    exact ⟨B, lim, e1, e2.mono (cut_ext _ _)⟩
  constructor
  · obtain ⟨M, m1, m2, m3⟩ := inv.M
    refine ⟨M, ⟨⟨⟨live, fun b b' x x' B l l' hx hx' => inv.inj b b' x x' B l l' (by rw [hk]; exact hx) (by rw [hk]; exact hx')⟩, fun b x hx => ?_, fun b hb => ?_⟩, ?_, inv.size, ?_, m1, fun b hb => inv.old b (by omega), fun b x hb hx => ?_, fun B hB hn => ?_, fun b B lim hb hμ => ?_, inv.out⟩⟩
    · obtain ⟨B, lim, e1, _⟩ := live b x hx
      exact hdom b _ e1
    · cases hμ : μ b with
      | none => rfl
      | some y => have := hdom b y hμ; simp only at hb; unfold Nx at this; omega
    · have := nx_mono tr (i := 0) (j := ops.size) (by omega) (Nat.le_refl _)
      rw [hN] at this; exact this
    · have := lo_anti tr (i := 0) (j := ops.size) (by omega) (Nat.le_refl _)
      rw [hlo] at this; exact this
    · obtain ⟨x0, h⟩ := inv.keep b x (by omega) (by rw [hk]; exact hx)
      exact ⟨x0, by rw [← hh]; exact h⟩
    · exact m2 B hB fun b x lim h1 h2 => hn b x lim (by rw [← hh]; exact h1) h2
    · exact (m3 b B lim (by omega) hμ).imp id fun ⟨b0, x, l, q1, q2, q3⟩ => ⟨b0, x, l, by rw [← hh]; exact q1, q2, q3⟩
  · intro t v hv
    by_cases hex : ∃ j, j < ops.size ∧ (ao j).dst = some t
    · obtain ⟨j, hj, hd⟩ := hex
      have := env_frames tr (k := j + 1) (i := ops.size) (t := t) (by omega) (Nat.le_refl _) fun k h1 h2 => dst_ne tr hj h2 (by omega) hd
      rw [this] at hv
      obtain ⟨h1, h2⟩ := inv.envW j hj (hS j hj) t v hd hv
      exact ⟨h1, h2.mono (cut_ext _ _)⟩
    · have := env_frames tr (k := 0) (i := ops.size) (t := t) (by omega) (Nat.le_refl _) fun k _ h2 hd => hex ⟨k, h2, hd⟩
      rw [this] at hv
      obtain ⟨h1, h2⟩ := inv.envO t v (fun j hj _ hd => hex ⟨j, hj, hd⟩) hv
      exact ⟨h1, h2.mono (cut_ext _ _)⟩

omit tr in
theorem filter_lt {p p' : Nat → Bool} : ∀ (l : List Nat), (∀ x, p' x = true → p x = true) → (∃ x ∈ l, p x = true ∧ p' x = false) → (l.filter p').length < (l.filter p).length
  | [], _, ⟨x, h, _⟩ => by simp at h
  | y :: l, hi, ⟨x, h, h1, h2⟩ => by
    have le : ∀ l : List Nat, (l.filter p').length ≤ (l.filter p).length := fun l => by
      induction l with
      | nil => exact Nat.le_refl _
      | cons z l ih =>
        simp only [List.filter_cons]
        cases hp' : p' z with
        | true => rw [hi z hp']; simp; exact ih
        | false => cases p z <;> simp <;> omega
    rcases List.mem_cons.1 h with e | e
    · subst e
      simp only [List.filter_cons, h1, h2]
      have := le l
      simp; omega
    · have ih := filter_lt l hi ⟨x, e, h1, h2⟩
      simp only [List.filter_cons]
      cases hp' : p' y with
      | true => rw [hi y hp']; simp; exact ih
      | false => cases p y <;> simp <;> omega

theorem inv_any (T : TOk P ti sk) (hL : ∀ e n o u, X.L e n o u = true → liesAt P P.depth e (n / P.cellsOf e) o u 1 = true) (hc : CallSound P X call) {Q : Exit → Act → World → Prop}
    (h0 : ∀ b, Nx s 0 ≤ b → hp s 0 b = none) (hg : GRel X.G μ0) (hg0 : ∀ b y, μ0 b = some y → b < Nx s 0) (hdst : ∀ (i : Nat) o, ops[i]? = some o → ∀ d, o.dst = some d → d < nt)
    (hQ : ∀ S μ a w, (∀ j, j < ops.size → S j) → Inv ops ao s f nt df μ0 w0 S μ a w → Q .normal a w) :
    ∀ (fuel : Nat) (listed : Array Bool) (μ : Mp) (a : Act) (w : World), listed.size = ops.size → ((List.range ops.size).filter fun i => !listed.getD i true).length ≤ fuel →
      Inv ops ao s f nt df μ0 w0 (fun j => listed.getD j false = true) μ a w → wpAny P .any ops Q fuel listed a w := by
  have allOf : ∀ (listed : Array Bool), listed.size = ops.size → Region.ready .any ops listed = [] → ∀ j, j < ops.size → listed.getD j false = true := by
    intro listed hsz hr j
    induction j using Nat.strongRecOn with
    | _ j ih =>
      intro hj
      refine Classical.byContradiction fun hn => ?_
      have hmem : j ∈ Region.ready .any ops listed := by
        rw [mem_ready]
        refine ⟨?_, _, Array.getElem?_eq_getElem hj, fun e he hb => ?_⟩
        · have : j < listed.size := by omega
          simp [Array.getD, this] at hn ⊢
          exact hn
        · have := tr.dk.back j _ (Array.getElem?_eq_getElem hj) e he hb
          exact ih e.on this (by omega)
      rw [hr] at hmem; cases hmem
  intro fuel
  induction fuel with
  | zero =>
    intro listed μ a w hsz hf inv
    have hr : Region.ready .any ops listed = [] := by
      cases hr : Region.ready .any ops listed with
      | nil => rfl
      | cons i l =>
        exfalso
        have hm : i ∈ Region.ready .any ops listed := by rw [hr]; simp
        obtain ⟨h1, o, ho, _⟩ := mem_ready.1 hm
        have hi := (Array.getElem?_eq_some_iff.1 ho).1
        have : i ∈ (List.range ops.size).filter fun i => !listed.getD i true := by
          rw [List.mem_filter]; exact ⟨by simpa using hi, by rw [h1]; rfl⟩
        have := List.length_pos_of_mem this
        omega
    exact ⟨hr, hQ _ μ a w (allOf listed hsz hr) inv⟩
  | succ fuel ih =>
    intro listed μ a w hsz hf inv
    refine ⟨fun hr => hQ _ μ a w (allOf listed hsz hr) inv, fun i hi => ?_⟩
    obtain ⟨h1, o, ho, hall⟩ := mem_ready.1 hi
    have hil := (Array.getElem?_eq_some_iff.1 ho).1
    have hni : ¬ (listed.getD i false = true) := by
      have : i < listed.size := by omega
      simp [Array.getD, this] at h1 ⊢
      exact h1
    have hpre : ∀ k, Nat.testBit (ao i).preds k = true → listed.getD k false = true := by
      intro k hk
      rw [(tr.dk.is i o ho).2.2.2.2.1] at hk
      obtain ⟨e, he, hb, h2⟩ := before_spec ho hk
      have hon := hall e he hb
      rcases h2 with h2 | h2
      · rw [h2]; exact hon
      · have hlt := tr.dk.back i o ho e he hb
        refine inv.closed e.on (by omega) hon k ?_
        rw [(tr.dk.is e.on _ (Array.getElem?_eq_getElem (show e.on < ops.size by omega))).2.2.2.2.1]
        exact h2
    refine inv_op tr T hL hc h0 hg hg0 inv ho hni hpre (hdst i o ho) fun μ' a' w' inv' => ?_
    have hS : (fun j => listed.getD j false = true ∨ j = i) = fun j => (listed.setIfInBounds i true).getD j false = true := by
      funext j
      by_cases e : j = i
      · subst e
        have : j < listed.size := by omega
        simp [Array.getD, this]
      · have : (listed.setIfInBounds i true).getD j false = listed.getD j false := getD_set_ne false (fun h => e h.symm)
        rw [this]; simp [e]
    rw [hS] at inv'
    refine ih _ μ' a' w' (by simpa using hsz) ?_ inv'
    have := filter_lt (p := fun i => !listed.getD i true) (p' := fun j => !(listed.setIfInBounds i true).getD j true) (List.range ops.size) (fun x hx => ?_) ⟨i, by simpa using hil, by rw [h1]; rfl, ?_⟩
    · omega
    · by_cases e : x = i
      · subst e; rw [h1]; rfl
      · rw [getD_set_ne true (fun h => e h.symm)] at hx; exact hx
    · have : i < listed.size := by omega
      simp [Array.getD, this]
end

/-- a region that draws its order -/
theorem draw_sound {P : Program} {ti : TypeId → Option TypeInfo} {sk : TypeId → Bool} {X : Ctx} {call : CallT} (T : TOk P ti sk) (hL : ∀ e n o u, X.L e n o u = true → liesAt P P.depth e (n / P.cellsOf e) o u 1 = true) (hc : CallSound P X call)
    (hmix : P.follows .mixedOrders = true) {id : Nat} {ops : Array Oper} {al : List AOper} {nt : Nat} (hal : compDraw ti sk ops (loudsOf ti sk ops.toList 0) (Region.before ops) ops.toList 0 [] = some al)
    (hdst : ∀ (i : Nat) o, ops[i]? = some o → ∀ d, o.dst = some d → d < nt) {Q : Exit → Act → World → Prop} {μ : Mp} {w : World} {σ : St} {env env' : Env} {d' : DSt} {a : Act} (ok : Ok μ w σ) (hg : GRel X.G μ) (he : EnvRel env μ a.tmps) (hsz : a.tmps.size = nt)
    (h : runDraw X call al 0 env { heap := σ.heap, next := σ.next, lo := σ.lo, own := [], rd := [], hot := [] } = some (env', d'))
    (hQ : ∀ μ' w' a', Went μ w σ μ' w' { heap := d'.heap, next := d'.next, lo := d'.lo } → EnvRel env' μ' a'.tmps → a'.tmps.size = nt → a'.defers = a.defers → Q .normal a' w') : (Code.region id ops true).wp P Q a w := by
  obtain ⟨ao, s, f, tr, hs0, hsn⟩ := tr_of ti sk X call ops hal h
  have hd := Step.drawn (w' := { w with drawn := w.drawn + 1 }) ok rfl
  have ok1 := hd.ok
  have hN : Nx s 0 = σ.next := by unfold Nx; rw [hs0]
  refine wp_region_any hmix ?_
  have hlist : ∀ j, ¬ ((Array.replicate ops.size false).getD j false = true) := fun j hj => by
    rcases Nat.lt_or_ge j ops.size with hh | hh
    · simp [Array.getD, hh] at hj
    · simp [Array.getD, Nat.not_lt.2 hh] at hj
  have inv0 := inv_init (ops := ops) (ao := ao) (f := f) (S := fun j => (Array.replicate ops.size false).getD j false = true) hlist ok1 he hs0
  rw [hsz] at inv0
  refine inv_any tr T hL hc (μ0 := μ) (w0 := { w with drawn := w.drawn + 1 }) (fun b hb => ?_) hg (fun b y hy => ?_) hdst (fun S μ' a' w' hS inv => ?_) ops.size _ μ a _ (by simp) ?_ inv0
  · unfold hp; rw [hs0]
    cases hv : σ.heap.get b with
    | none => rfl
    | some y => have := ok.wf b y hv; omega
  · rcases Nat.lt_or_ge b (Nx s 0) with h' | h'
    · exact h'
    · rw [ok.free b (by omega)] at hy; cases hy
  · obtain ⟨h1, h2⟩ := inv_done tr hS ok1 hs0 inv
    rw [hsn] at h1 h2
    exact hQ μ' w' a' (Went.trans ok ⟨_, hd⟩ h1) h2 inv.sz inv.df
  · exact Nat.le_trans (List.length_filter_le ..) (by simp)
end Go.Am

