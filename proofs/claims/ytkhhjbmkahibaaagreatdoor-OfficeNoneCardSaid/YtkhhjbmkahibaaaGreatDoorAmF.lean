/-
  The abstract machine: a run of it says what a call does.
-/
import Derived.Test.YtkhhjbmkahibaaaGreatDoorAmE
import Derived.Lib.Bytealg
set_option linter.unusedVariables false
set_option linter.unusedSimpArgs false
set_option linter.unusedSectionVars false
set_option linter.unnecessarySimpa false
namespace Go.Am

def dstLt (n : Nat) : List Oper → Bool
  | [] => true
  | o :: os => (match o.dst with | some d => Nat.blt d n | none => true) && dstLt n os
def dstOk (n : Nat) : Code → Bool
  | .region _ ops _ => dstLt n ops.toList
  | .seq a b => dstOk n a && dstOk n b
  | .cond _ a b => dstOk n a && dstOk n b
  | .block _ a => dstOk n a
  | .loop a => dstOk n a
  | _ => true

theorem dstLt_spec {n : Nat} : ∀ {l : List Oper}, dstLt n l = true → ∀ (i : Nat) o, l[i]? = some o → ∀ d, o.dst = some d → d < n
  | [], _, i, o, h => by simp at h
  | p :: l, h, i, o, hi => by
    simp only [dstLt, Bool.and_eq_true] at h
    cases i with
    | zero =>
      simp at hi; subst hi
      intro d hd
      rw [hd] at h
      exact of_bltT h.1
    | succ i => exact dstLt_spec h.2 i o (by simpa using hi)

theorem least_ex {p : Nat → Prop} (h : ∃ n, p n) : ∃ n, p n ∧ ∀ m, p m → n ≤ m := by
  obtain ⟨n, hn⟩ := h
  induction n using Nat.strongRecOn with
  | _ n ih =>
    by_cases hh : ∃ m, m < n ∧ p m
    · obtain ⟨m, h1, h2⟩ := hh; exact ih m h1 h2
    · exact ⟨n, hn, fun m hm => Nat.le_of_not_lt fun hlt => hh ⟨m, hlt, hm⟩⟩
open Classical in
noncomputable def least (p : Nat → Prop) : Nat := if h : ∃ n, p n then Classical.choose (least_ex h) else 0
theorem least_spec {p : Nat → Prop} (h : ∃ n, p n) : p (least p) := by unfold least; rw [dif_pos h]; exact (Classical.choose_spec (least_ex h)).1
theorem least_le {p : Nat → Prop} {m : Nat} (hm : p m) : least p ≤ m := by
  have h : ∃ n, p n := ⟨m, hm⟩
  unfold least; rw [dif_pos h]; exact (Classical.choose_spec (least_ex h)).2 m hm

def exitOf : Tag → Exit
  | .normal => .normal
  | .exit id => .exit id
  | .ret => .ret

section
variable {P : Program} {ti : TypeId → Option TypeInfo} {sk : TypeId → Bool} {X : Ctx} {call : CallT}

/-- the relation between the two runs inside a function -/
structure At (X : Ctx) (nt : Nat) (df : List Deferred) (μ0 : Mp) (w0 : World) (σ0 : St) (env : Env) (σ : St) (μ : Mp) (a : Act) (w : World) : Prop where
  went : Went μ0 w0 σ0 μ w σ
  env : EnvRel env μ a.tmps
  sz : a.tmps.size = nt
  df : a.defers = df

theorem code_sound (T : TOk P ti sk) (hL : ∀ e n o u, X.L e n o u = true → liesAt P P.depth e (n / P.cellsOf e) o u 1 = true) (hc : CallSound P X call) (hmix : P.follows .mixedOrders = true)
    {nt : Nat} {df : List Deferred} {μ0 : Mp} {w0 : World} {σ0 : St} (ok0 : Ok μ0 w0 σ0) (hg0 : GRel X.G μ0) :
    ∀ (c : Code), dstOk nt c = true → ∀ (env : Env) (σ : St) (tag : Tag) (env' : Env) (σ' : St), runCode X call (comp ti sk c) env σ = some (tag, env', σ') →
      ∀ (μ : Mp) (w : World) (a : Act) (Q : Exit → Act → World → Prop), At X nt df μ0 w0 σ0 env σ μ a w →
      (∀ μ' w' a', At X nt df μ0 w0 σ0 env' σ' μ' a' w' → Q (exitOf tag) a' w') → c.wp P Q a w := by
  have glob : ∀ {env σ μ a w}, At X nt df μ0 w0 σ0 env σ μ a w → GRel X.G μ := fun h => hg0.mono (h.went.ext ok0)
  intro c
  induction c with
  | skip =>
    intro _ env σ tag env' σ' h μ w a Q hat hQ
    simp only [comp, runCode, Option.some.injEq, Prod.mk.injEq] at h
    obtain ⟨rfl, rfl, rfl⟩ := h
    exact wp_skip (hQ μ w a hat)
  | label l =>
    intro _ env σ tag env' σ' h μ w a Q hat hQ
    simp only [comp, runCode, Option.some.injEq, Prod.mk.injEq] at h
    obtain ⟨rfl, rfl, rfl⟩ := h
    exact wp_label (hQ μ w a hat)
  | exit id =>
    intro _ env σ tag env' σ' h μ w a Q hat hQ
    simp only [comp, runCode, Option.some.injEq, Prod.mk.injEq] at h
    obtain ⟨rfl, rfl, rfl⟩ := h
    exact wp_exit (hQ μ w a hat)
  | ret =>
    intro _ env σ tag env' σ' h μ w a Q hat hQ
    simp only [comp, runCode, Option.some.injEq, Prod.mk.injEq] at h
    obtain ⟨rfl, rfl, rfl⟩ := h
    exact wp_ret (hQ μ w a hat)
  | region id ops draw =>
    intro hd env σ tag env' σ' h μ w a Q hat hQ
    have hdst : ∀ (i : Nat) o, ops[i]? = some o → ∀ d, o.dst = some d → d < nt := fun i o ho => dstLt_spec hd i o (by simpa using ho)
    cases draw with
    | false =>
      simp only [comp] at h
      cases hal : compOpers ti sk ops ops.toList with
      | none => rw [hal] at h; cases h
      | some al =>
        rw [hal] at h
        simp only [runCode] at h
        cases hr : runOps X call al env σ with
        | none => rw [hr] at h; cases h
        | some p =>
          rw [hr] at h
          simp only [Option.some.injEq, Prod.mk.injEq] at h
          obtain ⟨rfl, rfl, rfl⟩ := h
          have := runOps_sound (Q := Q) T hL hc hdst ops.toList 0 al (by simp) hal μ w σ env p.1 p.2 a hat.went.ok (glob hat) hat.env hat.sz hr
            (fun μ' w' a' h1 h2 h3 h4 => hQ μ' w' a' ⟨hat.went.trans ok0 h1, h2, h3, by rw [h4]; exact hat.df⟩)
          refine wp_region ?_
          have e : (List.range ops.toList.length).map (0 + ·) = List.range ops.size := by simp
          rw [e] at this
          exact this
    | true =>
      simp only [comp] at h
      cases hal : compDraw ti sk ops (loudsOf ti sk ops.toList 0) (Region.before ops) ops.toList 0 [] with
      | none => rw [hal] at h; cases h
      | some al =>
        rw [hal] at h
        simp only [runCode] at h
        cases hr : runDraw X call al 0 env { heap := σ.heap, next := σ.next, lo := σ.lo, own := [], rd := [], hot := [] } with
        | none => rw [hr] at h; cases h
        | some p =>
          rw [hr] at h
          simp only [Option.some.injEq, Prod.mk.injEq] at h
          obtain ⟨rfl, rfl, rfl⟩ := h
          exact draw_sound T hL hc hmix hal hdst hat.went.ok (glob hat) hat.env hat.sz hr
            (fun μ' w' a' h1 h2 h3 h4 => hQ μ' w' a' ⟨hat.went.trans ok0 h1, h2, h3, by rw [h4]; exact hat.df⟩)
  | seq x y ihx ihy =>
    intro hd env σ tag env' σ' h μ w a Q hat hQ
    simp only [dstOk, Bool.and_eq_true] at hd
    simp only [comp, runCode] at h
    refine wp_seq ?_
    cases hx : runCode X call (comp ti sk x) env σ with
    | none => rw [hx] at h; cases h
    | some p =>
      obtain ⟨tg, e1, s1⟩ := p
      rw [hx] at h
      refine ihx hd.1 env σ tg e1 s1 hx μ w a _ hat fun μ1 w1 a1 hat1 => ?_
      cases tg with
      | normal => exact ihy hd.2 e1 s1 tag env' σ' h μ1 w1 a1 Q hat1 hQ
      | exit id => simp only [Option.some.injEq, Prod.mk.injEq] at h; obtain ⟨rfl, rfl, rfl⟩ := h; exact hQ μ1 w1 a1 hat1
      | ret => simp only [Option.some.injEq, Prod.mk.injEq] at h; obtain ⟨rfl, rfl, rfl⟩ := h; exact hQ μ1 w1 a1 hat1
  | cond c x y ihx ihy =>
    intro hd env σ tag env' σ' h μ w a Q hat hQ
    simp only [dstOk, Bool.and_eq_true] at hd
    simp only [comp] at h
    cases hk : okOpd c with
    | false => rw [hk] at h; cases h
    | true =>
      rw [hk] at h
      simp only [cond_true, runCode] at h
      cases hv : ev X.G env (opd c) with
      | none => rw [hv] at h; cases h
      | some v =>
        rw [hv] at h
        have hr := EnvRel.opd (a := a) (glob hat) hat.env c hk v hv
        generalize hq : a.eval c = q at hr
        cases hr with
        | bool t =>
          cases t with
          | true => exact wp_cond_true hq (ihx hd.1 env σ tag env' σ' h μ w a Q hat hQ)
          | false => exact wp_cond_false hq (ihy hd.2 env σ tag env' σ' h μ w a Q hat hQ)
        | _ => cases h
  | block id x ih =>
    intro hd env σ tag env' σ' h μ w a Q hat hQ
    simp only [comp, runCode] at h
    refine wp_block ?_
    cases hx : runCode X call (comp ti sk x) env σ with
    | none => rw [hx] at h; cases h
    | some p =>
      obtain ⟨tg, e1, s1⟩ := p
      rw [hx] at h
      refine ih hd env σ tg e1 s1 hx μ w a _ hat fun μ1 w1 a1 hat1 => ?_
      cases tg with
      | normal => simp only [Option.some.injEq, Prod.mk.injEq] at h; obtain ⟨rfl, rfl, rfl⟩ := h; exact hQ μ1 w1 a1 hat1
      | exit id' =>
        simp only at h
        cases hb : Nat.beq id' id with
        | true =>
          rw [hb] at h
          simp only [cond_true, Option.some.injEq, Prod.mk.injEq] at h; obtain ⟨rfl, rfl, rfl⟩ := h
          simp only [exitOf, Exit.inBlock]
          rw [if_pos (of_beqT hb)]
          exact hQ μ1 w1 a1 hat1
        | false =>
          rw [hb] at h
          simp only [cond_false, Option.some.injEq, Prod.mk.injEq] at h; obtain ⟨rfl, rfl, rfl⟩ := h
          simp only [exitOf, Exit.inBlock]
          rw [if_neg (of_beqF hb)]
          exact hQ μ1 w1 a1 hat1
      | ret => simp only [Option.some.injEq, Prod.mk.injEq] at h; obtain ⟨rfl, rfl, rfl⟩ := h; exact hQ μ1 w1 a1 hat1
  | loop x ih =>
    intro hd env σ tag env' σ' h μ w a Q hat hQ
    simp only [comp, runCode] at h
    classical
    let J : Nat → Act → World → Prop := fun n a w => ∃ env1 σ1 μ1, At X nt df μ0 w0 σ0 env1 σ1 μ1 a w ∧ loopN (runCode X call (comp ti sk x)) n env1 σ1 = some (tag, env', σ')
    refine wp_loop (fun a w => ∃ n, J n a w) (fun a w => least fun n => J n a w) ⟨X.lf, env, σ, μ, hat, h⟩ ?_
    rintro a1 w1 hI
    have hJ := least_spec hI
    generalize hn : least (fun n => J n a1 w1) = n at hJ ⊢
    obtain ⟨env1, σ1, μ1, hat1, hl⟩ := hJ
    cases n with
    | zero => cases hl
    | succ n =>
      simp only [loopN] at hl
      cases hx : runCode X call (comp ti sk x) env1 σ1 with
      | none => rw [hx] at hl; cases hl
      | some p =>
        obtain ⟨tg, e2, s2⟩ := p
        rw [hx] at hl
        refine ih hd env1 σ1 tg e2 s2 hx μ1 w1 a1 _ hat1 fun μ2 w2 a2 hat2 => ?_
        cases tg with
        | normal =>
          have hJ2 : J n a2 w2 := ⟨e2, s2, μ2, hat2, hl⟩
          refine ⟨⟨n, hJ2⟩, ?_⟩
          have := least_le (p := fun n => J n a2 w2) hJ2
          omega
        | exit id => simp only [Option.some.injEq, Prod.mk.injEq] at hl; obtain ⟨rfl, rfl, rfl⟩ := hl; exact hQ μ2 w2 a2 hat2
        | ret => simp only [Option.some.injEq, Prod.mk.injEq] at hl; obtain ⟨rfl, rfl, rfl⟩ := hl; exact hQ μ2 w2 a2 hat2
  | _ => intro _ env σ tag env' σ' h; cases h
end
end Go.Am

namespace Go.Am
section
variable {P : Program} {ti : TypeId → Option TypeInfo} {sk : TypeId → Bool} {X : Ctx}

/-- what is asked of a call whose outcome is known beforehand -/
def MemoOk (P : Program) (G : GT) (f : FuncId) (args : List Value) (σ : St) (v : Value) : Prop :=
  ∀ (μ : Mp) (w : World) (args' : Array Value), Ok μ w σ → GRel G μ → RelL μ args args'.toList →
    ∀ (o : Oper) (a : Act) (next : Act → World → Prop) (Q : Exit → Act → World → Prop),
      (∀ w' v', Step (fun _ => False) μ w σ μ w' σ → Rel μ v v' → next (a.put o.dst v') w') → o.upon P a next Q ((callFunc f args').run P w)

/-- the context speaks of the program -/
structure XOk (P : Program) (ti : TypeId → Option TypeInfo) (sk : TypeId → Bool) (X : Ctx) : Prop where
  tok : TOk P ti sk
  mix : P.follows .mixedOrders = true
  lies : ∀ e n o u, X.L e n o u = true → liesAt P P.depth e (n / P.cellsOf e) o u 1 = true
  fs : ∀ f af, X.fs f = some af → ∃ fn c, P.funcs[f]? = some fn ∧ fn.body = some c ∧ (fn.name == "runtime.NumGoroutine") = false ∧ dstOk fn.ntmps c = true ∧ af.nparams ≤ fn.ntmps ∧ compResults ti fn.results.toList = some af.results ∧ af.body = comp ti sk c
  ext : ∀ f e, X.ext f = some e → ∀ args v, e args = some v → ∀ μ (args' : Array Value) w, RelL μ args args'.toList → ∃ v', (callFunc f args').run P w = .ok (.value v') w ∧ Rel μ v v'
  memo : ∀ f args σ v, X.memo f args σ = some (v, true) → MemoOk P X.G f args σ v

theorem results_sound (T : TOk P ti sk) {env : Env} {μ : Mp} {w : World} {tmps : Array Value} (he : EnvRel env μ tmps) :
    ∀ (rs : List ResultVar) (ars : List (Nat × Option (Option Nat))) (σ σ' : St) (vs : List Value), compResults ti rs = some ars → Ok μ w σ → resultsOf X env ars σ = some (vs, σ') →
      σ' = σ ∧ ∃ vs' : List Value, (rs.mapM (m := Sem) fun | .tmp t => pure (tmps.getD t undef) | .cell a t => do loadVar t (← asAddr (tmps.getD a undef))).run P w = .ok vs' w ∧ RelL μ vs vs'
  | [], ars, σ, σ', vs, hc, ok, h => by
    simp [compResults] at hc; subst hc
    obtain ⟨rfl, rfl⟩ := H.pure_some h
    exact ⟨rfl, [], rfl, .nil⟩
  | .tmp t :: rs, ars, σ, σ', vs, hc, ok, h => by
    simp only [compResults] at hc
    cases hr : compResults ti rs with
    | none => rw [hr] at hc; cases hc
    | some l =>
      rw [hr] at hc; simp at hc; subst hc
      obtain ⟨v, σ1, k1, k2⟩ := H.bind_some h
      obtain ⟨k1', rfl⟩ := H.opt_some k1
      obtain ⟨us, σ2, k3, k4⟩ := H.bind_some k2
      obtain ⟨rfl, rfl⟩ := H.pure_some k4
      obtain ⟨e, vs', q1, q2⟩ := results_sound T he rs l _ _ us hr ok k3
      refine ⟨e, tmps.getD t undef :: vs', ?_, .cons (he t v k1').2 q2⟩
      simp only [List.mapM_cons, Sem.run_bind, Sem.run_pure, Result.andThen, q1]
  | .cell c t :: rs, ars, σ, σ', vs, hc, ok, h => by
    simp only [compResults] at hc
    cases ha : aggOf ti t with
    | none => rw [ha] at hc; cases hc
    | some ag =>
      have key : ∀ n l, ars = (c, some n) :: l → compResults ti rs = some l → ((aggOf ti t = some true ∧ ∃ k, cellsOf? ti t = some k ∧ n = some k) ∨ (aggOf ti t = some false ∧ n = none)) →
          σ' = σ ∧ ∃ vs' : List Value, ((ResultVar.cell c t :: rs).mapM (m := Sem) fun | .tmp t => pure (tmps.getD t undef) | .cell a t => do loadVar t (← asAddr (tmps.getD a undef))).run P w = .ok vs' w ∧ RelL μ vs vs' := by
        intro n l e hr hn
        subst e
        obtain ⟨v, σ1, k1, k2⟩ := H.bind_some h
        obtain ⟨us, σ2, k3, k4⟩ := H.bind_some k2
        obtain ⟨rfl, rfl⟩ := H.pure_some k4
        have hv : ∃ v', σ1 = σ ∧ (do loadVar t (← asAddr (tmps.getD c undef)) : Sem Value).run P w = .ok v' w ∧ Rel μ v v' := by
          simp only [aop, ev] at k1
          cases hg : env.get c with
          | none => rw [hg] at k1; cases k1
          | some cv =>
            rw [hg] at k1
            have hr := (he c cv hg).2
            generalize hq : tmps.getD c undef = q at hr ⊢
            cases hr with
            | ptr e1 =>
              rename_i b oo B lim
              rcases hn with ⟨ha, k, hk, rfl⟩ | ⟨ha, rfl⟩
              · obtain ⟨r, σ3, h1, h2⟩ := H.bind_some k1
                obtain ⟨cc, ro, ty, fl, hb, ht, rfl⟩ := readCells_some h1
                obtain ⟨rfl, rfl⟩ := H.pure_some h2
                obtain ⟨r', g1, g2⟩ := run_reads (P := P) ok.sim hb e1 ht
                refine ⟨.agg r'.toArray, rfl, ?_, .agg g2⟩
                simp [asAddr, loadVar, run_agg T.info ha, run_size T.info hk, g1]
              · obtain ⟨x1, σ3, h1, h2⟩ := H.bind_some k1
                obtain ⟨hb, rfl⟩ := getCells_some h1
                obtain ⟨h2', rfl⟩ := H.opt_some h2
                obtain ⟨cs, fr, g1, g2, g3, g4, g5, g6⟩ := ok.sim.cells hb e1
                obtain ⟨v', e2, e3⟩ := g5 _ _ h2'
                refine ⟨v', rfl, ?_, e3⟩
                have hcl : w.cell? ⟨B, oo, none⟩ = some v' := by simp [World.cell?, g1, e2]
                simp [asAddr, loadVar, run_agg T.info ha, load, Sem.run, hcl]
            | _ => cases k1
        obtain ⟨v', rfl, q3, q4⟩ := hv
        obtain ⟨e, vs', q1, q2⟩ := results_sound T he rs l _ _ us hr ok k3
        refine ⟨e, v' :: vs', ?_, .cons q4 q2⟩
        rw [List.mapM_cons, Sem.run_bind]
        simp only [q3, Result.andThen, Sem.run_bind, q1, Sem.run_pure]
      cases ag with
      | true =>
        cases hk : cellsOf? ti t with
        | none => rw [ha, hk] at hc; cases hc
        | some k =>
          cases hr : compResults ti rs with
          | none => rw [ha, hk, hr] at hc; cases hc
          | some l => rw [ha, hk, hr] at hc; simp at hc; exact key (some k) l hc.symm hr (.inl ⟨ha, k, hk, rfl⟩)
      | false =>
        cases hr : compResults ti rs with
        | none => rw [ha, hr] at hc; cases hc
        | some l => rw [ha, hr] at hc; simp at hc; exact key none l hc.symm hr (.inr ⟨ha, rfl⟩)

theorem collect_sub {h h0 : T Blk} {b0 : Nat} : ∀ (n : Nat) (bs : List Nat) (t : T Blk) (acc : List Nat) (r : T Blk × List Nat), collect h b0 n bs t acc = some r →
    (∀ b x, t.get b = some x → (b < b0 → h0.get b = some x) ∧ (b0 ≤ b → h0.get b = some x ∨ h.get b = some x)) → (∀ b x, r.1.get b = some x → (b < b0 → h0.get b = some x) ∧ (b0 ≤ b → h0.get b = some x ∨ h.get b = some x))
  | n, [], t, acc, r, hc, ht => by
    cases n <;> (simp only [collect, Option.some.injEq] at hc; subst hc; exact ht)
  | 0, _ :: _, t, acc, r, hc, _ => by simp [collect] at hc
  | n + 1, b :: bs, t, acc, r, hc, ht => by
    simp only [collect] at hc
    cases hb : Nat.ble b0 b with
    | false => rw [hb] at hc; exact collect_sub n bs t acc r hc ht
    | true =>
      rw [hb] at hc
      simp only [cond_true] at hc
      cases hg : t.get b with
      | some x => rw [hg] at hc; exact collect_sub n bs t acc r hc ht
      | none =>
        rw [hg] at hc
        cases hh : h.get b with
        | none => rw [hh] at hc; exact collect_sub n bs t acc r hc ht
        | some x =>
          rw [hh] at hc
          refine collect_sub n _ _ _ r hc fun c y hy => ?_
          rw [T.get_set] at hy
          by_cases e : c = b
          · subst e
            rw [if_pos rfl] at hy
            cases hy
            have := of_bleT hb
            exact ⟨fun h => by omega, fun _ => .inr hh⟩
          · rw [if_neg e] at hy; exact ht c y hy

/-- leaving a call -/
theorem leave_sound {μ μ' : Mp} {w w' : World} {σ0 σ σ' : St} {v u : Value} {ids : List Nat} (ok : Ok μ w σ0) (h : leave σ0 v σ = some (u, σ', ids)) (hw : Went μ w { heap := σ0.heap, next := σ0.next, lo := σ0.next } μ' w' σ) :
    u = v ∧ Went μ w σ0 μ' w' σ' := by
  obtain ⟨M, st⟩ := hw
  have ok' : Ok μ w { heap := σ0.heap, next := σ0.next, lo := σ0.next } := ⟨ok.sim, ok.wf, ok.free⟩
  have hext := st.ext ok'
  unfold leave at h
  cases hb : Nat.ble σ0.next σ.lo with
  | false =>
    have hlt := of_bleF hb
    rw [hb] at h
    simp only [cond_false, Option.some.injEq, Prod.mk.injEq] at h
    obtain ⟨rfl, rfl, _⟩ := h
    refine ⟨rfl, M, ⟨⟨st.ok.sim, st.ok.wf, st.ok.free⟩, st.next, st.size, ?_, fun b hMb => ?_, st.old, st.keep, st.fr, st.fresh, st.out⟩⟩
    · simp only [lo_min]; omega
    · have := st.mlo b hMb; simp only [lo_min]; omega
  | true =>
    have hle := of_bleT hb
    rw [hb] at h
    simp only [cond_true] at h
    cases hc : collect σ.heap σ0.next 1000000 (idsOf 100000 [v]) σ0.heap [] with
    | none => rw [hc] at h; cases h
    | some r =>
      rw [hc] at h
      simp only [Option.some.injEq, Prod.mk.injEq] at h
      obtain ⟨rfl, rfl, _⟩ := h
      have hMge : ∀ b, M b → σ0.next ≤ b := fun b hMb => Nat.le_trans hle (st.mlo b hMb)
      have hnoM : ∀ b x, σ0.heap.get b = some x → ¬ M b := fun b x hx hMb => by have := ok.wf b x hx; have := hMge b hMb; omega
      have hfr : ∀ B, B < w.heap.size → w'.heap[B]? = w.heap[B]? := fun B hB => st.fr B hB fun b x lim hx _ => hnoM b x hx
      have hfresh : ∀ b B lim, σ0.next ≤ b → μ' b = some (B, lim) → w.heap.size ≤ B := fun b B lim hb hμ => by
        rcases st.fresh b B lim hb hμ with h | ⟨b0, x, l, h1, _, h3⟩
        · exact h
        · exact absurd h3 (hnoM b0 x h1)
      have hr : ∀ b x, r.1.get b = some x → (b < σ0.next ∧ σ0.heap.get b = some x) ∨ (σ0.next ≤ b ∧ σ.heap.get b = some x) := fun b x hx => by
        obtain ⟨h1, h2⟩ := collect_sub (h0 := σ0.heap) _ _ _ _ r hc (fun b x hx => ⟨fun _ => hx, fun _ => .inl hx⟩) b x hx
        rcases Nat.lt_or_ge b σ0.next with hlt | hge
        · exact .inl ⟨hlt, h1 hlt⟩
        · rcases h2 hge with h | h
          · have := ok.wf b x h; omega
          · exact .inr ⟨hge, h⟩
      have hlive0 : ∀ b x, σ0.heap.get b = some x → ∃ B lim, μ b = some (B, lim) ∧ B < w.heap.size ∧ BlkRel μ' x lim w'.heap[B]? := fun b x hx => by
        obtain ⟨B, lim, e1, e2⟩ := ok.sim.live b x hx
        exact ⟨B, lim, e1, e2.lt, by rw [hfr B e2.lt]; exact e2.mono hext⟩
      refine ⟨rfl, fun _ => False, ⟨⟨⟨fun b x hx => ?_, fun b b' x x' B l l' hx hx' h1 h2 => ?_⟩, fun b x hx => ?_, st.ok.free⟩, st.next, st.size, Nat.le_refl _, fun _ h => h.elim, st.old, fun b x hb hx => ?_, fun B hB _ => hfr B hB, fun b B lim hb hμ => .inl (hfresh b B lim hb hμ), st.out⟩⟩
      · rcases hr b x hx with ⟨_, h⟩ | ⟨_, h⟩
        · obtain ⟨B, lim, e1, _, e3⟩ := hlive0 b x h
          exact ⟨B, lim, hext _ _ e1, e3⟩
        · exact st.ok.sim.live b x h
      · rcases hr b x hx with ⟨hb1, h⟩ | ⟨hb1, h⟩
        · obtain ⟨B1, lim1, e1, e2, _⟩ := hlive0 b x h
          have := hext _ _ e1
          rw [h1] at this; cases this
          rcases hr b' x' hx' with ⟨hb2, h'⟩ | ⟨hb2, h'⟩
          · obtain ⟨B2, lim2, e1', e2', _⟩ := hlive0 b' x' h'
            have := hext _ _ e1'
            rw [h2] at this; cases this
            exact ok.sim.inj b b' x x' B l l' h h' e1 e1'
          · have := hfresh b' B l' hb2 h2; omega
        · rcases hr b' x' hx' with ⟨hb2, h'⟩ | ⟨hb2, h'⟩
          · obtain ⟨B2, lim2, e1', e2', _⟩ := hlive0 b' x' h'
            have := hext _ _ e1'
            rw [h2] at this; cases this
            have := hfresh b B l hb1 h1; omega
          · exact st.ok.sim.inj b b' x x' B l l' h h' h1 h2
      · rcases hr b x hx with ⟨hb1, h⟩ | ⟨hb1, h⟩
        · have := st.next; simp only at this ⊢; omega
        · exact st.ok.wf b x h
      · rcases hr b x hx with ⟨_, h⟩ | ⟨h', _⟩
        · exact ⟨x, h⟩
        · omega

theorem oneOf_rel {μ : Mp} {vs vs' : List Value} (h : RelL μ vs vs') : Rel μ (oneOf vs) (if h : (⟨vs'⟩ : Array Value).size = 1 then (⟨vs'⟩ : Array Value)[0] else .tuple ⟨vs'⟩) := by
  cases h with
  | nil => exact .tuple .nil
  | cons a r =>
    cases r with
    | nil => exact a
    | cons b r => exact .tuple (.cons a (.cons b r))

theorem results_run {fn : Func} {tmps : Array Value} {w : World} {vs' : List Value}
    (h : (fn.results.toList.mapM (m := Sem) fun | .tmp t => pure (tmps.getD t undef) | .cell a t => do loadVar t (← asAddr (tmps.getD a undef))).run P w = .ok vs' w) :
    (results fn tmps).run P w = .ok (if h : (⟨vs'⟩ : Array Value).size = 1 then (⟨vs'⟩ : Array Value)[0] else .tuple ⟨vs'⟩) w := by
  unfold results
  rw [Array.mapM_eq_mapM_toList]
  simp only [Sem.run_bind, Sem.run_map]
  exact Eq.trans (congrArg (fun r => Result.andThen (Result.andThen r fun (a : List Value) w' => Result.ok a.toArray w') fun (a : Array Value) w' => Sem.run P (pure (if h : a.size = 1 then a[0] else Value.tuple a)) w') h) rfl

theorem callN_sound (K : XOk P ti sk X) : ∀ n, CallSound P X (callN X n) := by
  intro n
  induction n with
  | zero => intro f vs σ v σ' ids h; cases h
  | succ n ih =>
    intro f vs σ v σ' ids h μ w args ok hg hr o a next Q hn
    have hm : (∃ u, X.memo f vs σ = some (u, true) ∧ (u, σ, []) = (v, σ', ids)) ∨ callB X (callN X n) f vs σ = some (v, σ', ids) := by
      simp only [callN] at h
      split at h
      · exact .inl ⟨_, by assumption, by simpa using h⟩
      · exact .inr h
    rcases hm with ⟨u, hm, e⟩ | h
    · cases e
      exact K.memo f vs σ _ hm μ w args ok hg hr o a next Q fun w' v' st r => hn μ w' v' _ st r
    unfold callB at h
    cases he : X.ext f with
    | some e =>
      rw [he] at h
      simp only at h
      cases hv : e vs with
      | none => rw [hv] at h; cases h
      | some u =>
        rw [hv] at h
        simp only [Option.some.injEq, Prod.mk.injEq] at h
        obtain ⟨rfl, rfl, _⟩ := h
        obtain ⟨v', r1, r2⟩ := K.ext f e he vs u hv μ args w hr
        rw [r1]
        exact hn μ w v' _ (Step.refl ok) r2
    | none =>
      rw [he] at h
      simp only at h
      cases hf : X.fs f with
      | none => rw [hf] at h; cases h
      | some af =>
        rw [hf] at h
        obtain ⟨fn, c, f1, f2, f3, f4, f5, f6, f7⟩ := K.fs f af hf
        simp only at h
        cases hl : Nat.beq vs.length af.nparams with
        | false => rw [hl] at h; cases h
        | true =>
          rw [hl] at h
          have hlen := of_beqT hl
          simp only [cond_true] at h
          cases hb : runCode X (callN X n) af.body (envOf vs) { heap := σ.heap, next := σ.next, lo := σ.next } with
          | none => rw [hb] at h; cases h
          | some p =>
            obtain ⟨tag, env', σ1⟩ := p
            rw [hb] at h
            simp only at h
            have henter : (callFunc f args).run P w = .ok (.enter f args) w := by
              have f3' : ¬ (fn.name = "runtime.NumGoroutine") := by simpa using f3
              simp [callFunc, program, Sem.run, f1, f3', f2]
            rw [henter, Oper.upon_enter]
            have hal : vs.length = args.size := by have := hr.length; simpa using this
            have key : (∃ rs σ2, resultsOf X env' af.results σ1 = some (rs, σ2) ∧ leave σ (oneOf rs) σ2 = some (v, σ', ids)) ∧ tag ≠ .exit 0 ∧ (∀ id, tag ≠ .exit id) := by
              cases tag with
              | exit id => cases h
              | normal =>
                simp only at h
                cases hres : resultsOf X env' af.results σ1 with
                | none => rw [hres] at h; cases h
                | some q => rw [hres] at h; exact ⟨⟨q.1, q.2, rfl, h⟩, by simp, by simp⟩
              | ret =>
                simp only at h
                cases hres : resultsOf X env' af.results σ1 with
                | none => rw [hres] at h; cases h
                | some q => rw [hres] at h; exact ⟨⟨q.1, q.2, rfl, h⟩, by simp, by simp⟩
            obtain ⟨⟨rs, σ2, hres, hleave⟩, _, htag⟩ := key
            have ok' : Ok μ w { heap := σ.heap, next := σ.next, lo := σ.next } := ⟨ok.sim, ok.wf, ok.free⟩
            have hat : At X fn.ntmps [] μ w { heap := σ.heap, next := σ.next, lo := σ.next } (envOf vs) { heap := σ.heap, next := σ.next, lo := σ.next } μ { tmps := args ++ Array.replicate (fn.ntmps - args.size) undef, defers := [] } w := by
              refine ⟨.refl ok', fun t u hu => ?_, by simp; omega, rfl⟩
              rw [envOf, T.get_ofList] at hu
              obtain ⟨y, q1, q2⟩ := hr.get hu
              have hlt := (List.getElem?_eq_some_iff.mp hu).1
              refine ⟨by simp; omega, ?_⟩
              have : (args ++ Array.replicate (fn.ntmps - args.size) undef).getD t undef = y := by
                rw [Array.getD_eq_getD_getElem?, Array.getElem?_append_left (by omega)]
                simp at q1; rw [q1]; rfl
              rw [this]; exact q2
            rw [f7] at hb
            refine calls_of_wp f1 f2 ?_
            refine code_sound K.tok K.lies ih K.mix ok' hg c f4 (envOf vs) _ tag env' σ1 hb μ w _ _ hat fun μ1 w1 a1 hat1 => ?_
            obtain ⟨e, vs', q1, q2⟩ := results_sound K.tok hat1.env _ _ _ _ _ f6 hat1.went.ok hres
            subst e
            obtain ⟨hu, hw⟩ := leave_sound ok hleave hat1.went
            subst hu
            obtain ⟨M, st⟩ := hw
            have hfin := hn μ1 w1 _ M st (oneOf_rel q2)
            cases tag with
            | normal => exact ⟨hat1.df, _, results_run q1, hfin⟩
            | ret => exact ⟨hat1.df, _, results_run q1, hfin⟩
            | exit id => exact absurd rfl (htag id)
end
end Go.Am

namespace Go.Am
noncomputable section

/-- a function's translation, with all that is asked of it -/
def compF (ti : TypeId → Option TypeInfo) (sk : TypeId → Bool) (fn : Func) : Option AFunc := match fn.body with
  | some c => bif !(fn.name == "runtime.NumGoroutine") && dstOk fn.ntmps c && Nat.ble (fn.params.size + fn.nfree) fn.ntmps then compFunc ti sk fn else none
  | none => none

def tiOf (t : T TypeInfo) : TypeId → Option TypeInfo := fun i => t.get i
def fsOf (t : T (Option AFunc)) : FuncId → Option AFunc := fun f => match t.get f with | some x => x | none => none

theorem tiOf_ok {P : Program} {tt : T TypeInfo} (h : tt = T.ofList P.types.toList) (t : TypeId) (i : TypeInfo) (hi : tiOf tt t = some i) : P.info? t = some i := by
  subst h
  unfold tiOf at hi
  rw [T.get_ofList] at hi
  have : P.types[t]? = some i := by simpa using hi
  have hlt := (Array.getElem?_eq_some_iff.1 this).1
  unfold Tables.info?
  rw [if_pos hlt]; exact this

theorem fsOf_ok {P : Program} {ti : TypeId → Option TypeInfo} {sk : TypeId → Bool} {ft : T (Option AFunc)} (h : ft = T.ofList (P.funcs.toList.map (compF ti sk))) (f : FuncId) (af : AFunc) (hf : fsOf ft f = some af) :
    ∃ fn c, P.funcs[f]? = some fn ∧ fn.body = some c ∧ (fn.name == "runtime.NumGoroutine") = false ∧ dstOk fn.ntmps c = true ∧ af.nparams ≤ fn.ntmps ∧ compResults ti fn.results.toList = some af.results ∧ af.body = comp ti sk c := by
  subst h
  unfold fsOf at hf
  rw [T.get_ofList, List.getElem?_map] at hf
  cases hg : P.funcs.toList[f]? with
  | none => rw [hg] at hf; cases hf
  | some fn =>
    rw [hg] at hf
    simp only [Option.map_some] at hf
    unfold compF at hf
    cases hb : fn.body with
    | none => rw [hb] at hf; cases hf
    | some c =>
      rw [hb] at hf
      simp only at hf
      cases hc : (!(fn.name == "runtime.NumGoroutine") && dstOk fn.ntmps c && Nat.ble (fn.params.size + fn.nfree) fn.ntmps) with
      | false => rw [hc] at hf; cases hf
      | true =>
        rw [hc] at hf
        simp only [Bool.and_eq_true, Bool.not_eq_true'] at hc
        simp only [cond_true] at hf
        unfold compFunc at hf
        rw [hb] at hf
        cases hr : compResults ti fn.results.toList with
        | none => rw [hr] at hf; cases hf
        | some r =>
          rw [hr] at hf
          simp only [Option.some.injEq] at hf
          subst hf
          exact ⟨fn, c, by simpa using hg, hb, hc.1.1, hc.1.2, of_bleT hc.2, hr, rfl⟩
end
end Go.Am

namespace Go.Am

def extCount : List Value → Option Value
  | [.string s, .int .u8 c] => some (.int .i64 (Lib.countByte s.data.toList c.toNat.toUInt8))
  | _ => none
def extIndex : List Value → Option Value
  | [.string s, .int .u8 c] => some (.int .i64 (Lib.indexByte s.data.toList c.toNat.toUInt8))
  | _ => none
def extCmp : List Value → Option Value
  | [.string a, .string b] => some (.int .i64 (Lib.compareBytes a.data.toList b.data.toList))
  | _ => none
def extSame : List Value → Option Value
  | [v] => some v
  | _ => none

section
variable {P : Program} {f : FuncId} {fn : Func} {μ : Mp}
/-- what is asked of a stand-in -/
def ExtOk (P : Program) (f : FuncId) (e : List Value → Option Value) : Prop :=
  ∀ args v, e args = some v → ∀ μ (args' : Array Value) w, RelL μ args args'.toList → ∃ v', (callFunc f args').run P w = .ok (.value v') w ∧ Rel μ v v'

theorem ext_of {e : Array Value → Sem Value} {g : List Value → Option Value} (hf : P.funcs[f]? = some fn) (hname : (fn.name == "runtime.NumGoroutine") = false) (hb : fn.body.isNone = true) (hn : Extern.findNext fn = none) (he : Extern.find fn = some e)
    (h : ∀ args v, g args = some v → ∀ μ (args' : Array Value) w, RelL μ args args'.toList → ∃ v', (e args').run P w = .ok v' w ∧ Rel μ v v') : ExtOk P f g := by
  intro args v hv μ args' w hr
  obtain ⟨v', h1, h2⟩ := h args v hv μ args' w hr
  refine ⟨v', ?_, h2⟩
  rw [run_callFunc_extern hf hname hb hn he, h1]
  rfl

theorem two {μ : Mp} {x y : Value} {args' : Array Value} (h : RelL μ [x, y] args'.toList) (hx : scal x = true) (hy : scal y = true) : args' = #[x, y] := by
  obtain ⟨l⟩ := args'
  cases h with
  | cons a r =>
    cases r with
    | cons b r =>
      cases r
      rw [Rel.of_scal hx a, Rel.of_scal hy b]

theorem ext_count (hf : P.funcs[f]? = some fn) (hname : (fn.name == "runtime.NumGoroutine") = false) (hb : fn.body.isNone = true) (hn : Extern.findNext fn = none) (he : Extern.find fn = some Extern.BytealgCount.count) : ExtOk P f extCount :=
  ext_of hf hname hb hn he fun args v hv μ args' w hr => by
    unfold extCount at hv
    split at hv
    · rename_i s c
      cases hv
      rw [two hr rfl rfl]
      exact ⟨_, Lib.run_countString s c w, .int _ _⟩
    · cases hv
theorem ext_index (hf : P.funcs[f]? = some fn) (hname : (fn.name == "runtime.NumGoroutine") = false) (hb : fn.body.isNone = true) (hn : Extern.findNext fn = none) (he : Extern.find fn = some Extern.BytealgIndexByte.indexByte) : ExtOk P f extIndex :=
  ext_of hf hname hb hn he fun args v hv μ args' w hr => by
    unfold extIndex at hv
    split at hv
    · rename_i s c
      cases hv
      rw [two hr rfl rfl]
      exact ⟨_, Lib.run_indexByteString s c w, .int _ _⟩
    · cases hv
theorem ext_cmp (hf : P.funcs[f]? = some fn) (hname : (fn.name == "runtime.NumGoroutine") = false) (hb : fn.body.isNone = true) (hn : Extern.findNext fn = none) (he : Extern.find fn = some Extern.BytealgCompare.compare) : ExtOk P f extCmp :=
  ext_of hf hname hb hn he fun args v hv μ args' w hr => by
    unfold extCmp at hv
    split at hv
    · rename_i s c
      cases hv
      rw [two hr rfl rfl]
      exact ⟨_, Lib.run_compareString s c w, .int _ _⟩
    · cases hv
theorem ext_same (hf : P.funcs[f]? = some fn) (hname : (fn.name == "runtime.NumGoroutine") = false) (hb : fn.body.isNone = true) (hn : Extern.findNext fn = none) (he : Extern.find fn = some Extern.AbiNoEscape.same) : ExtOk P f extSame :=
  ext_of hf hname hb hn he fun args v hv μ args' w hr => by
    unfold extSame at hv
    split at hv
    · cases hv
      obtain ⟨l⟩ := args'
      cases hr with
      | cons a r =>
        cases r
        exact ⟨_, rfl, a⟩
    · cases hv
end
end Go.Am

namespace Go.Am

theorem closedOneEq {μ : Mp} {v v' : Value} (h : closed1 v = true) (r : Rel μ v v') : v' = v := by
  cases r <;> first | rfl | (simp [Go.Am.closed1] at h)
theorem closedL_eq {μ : Mp} : ∀ {l l' : List Value}, l.all closed1 = true → RelL μ l l' → l' = l
  | _, _, _, .nil => rfl
  | _, _, h, .cons a r => by
    simp at h
    rw [closedOneEq h.1 a, closedL_eq (by simpa using h.2) r]
theorem closedC_eq {μ : Mp} {v v' : Value} (h : closedC v = true) (r : Rel μ v v') : v' = v := by
  cases r with
  | agg a => rw [closedL_eq h a]
  | tuple a => rw [closedL_eq h a]
  | bool b => rfl
  | int k n => rfl
  | string s => rfl
  | nilFunc => rfl
  | nilIface => rfl
  | ptr0 => rfl
  | slice0 => rfl
  | map0 => rfl
  | _ => simp [Go.Am.closedC, Go.Am.closed1] at h
theorem closedCL_eq {μ : Mp} : ∀ {l l' : List Value}, l.all closedC = true → RelL μ l l' → l' = l
  | _, _, _, .nil => rfl
  | _, _, h, .cons a r => by
    simp at h
    rw [closedC_eq h.1 a, closedCL_eq (by simpa using h.2) r]
theorem RelL.closedC {μ : Mp} : ∀ {l : List Value}, l.all Go.Am.closedC = true → RelL μ l l
  | [], _ => .nil
  | x :: xs, h => by simp at h; exact .cons (.closedC h.1) (RelL.closedC (by simpa using h.2))
/-- a value without addresses -/
def closedD : Value → Bool
  | .tuple cs => cs.toList.all closedC
  | v => closedC v
theorem closedD_eq {μ : Mp} {v v' : Value} (h : closedD v = true) (r : Rel μ v v') : v' = v := by
  have k : (∃ cs, v = .tuple cs) ∨ closedC v = true := by
    unfold closedD at h
    split at h
    · exact .inl ⟨_, rfl⟩
    · exact .inr h
  rcases k with ⟨cs, rfl⟩ | k
  · cases r with
    | tuple a => rw [closedCL_eq h a]
  · exact closedC_eq k r
theorem Rel.closedD {μ : Mp} {v : Value} (h : Go.Am.closedD v = true) : Rel μ v v := by
  unfold Go.Am.closedD at h
  split at h
  · rename_i cs; obtain ⟨l⟩ := cs; exact .tuple (RelL.closedC h)
  · exact .closedC h

/-- a block without addresses -/
def flatBlk : Blk → Bool
  | .cells c _ _ _ => c.all closed1
  | .map es _ => es.all fun e => closed1 e.key && closed1 e.val

theorem BlkRel.flat {μ μ' : Mp} {x : Blk} {lim : Nat} {o : Option Obj} (hf : flatBlk x = true) (h : BlkRel μ x lim o) : BlkRel μ' x lim o := by
  cases x with
  | cells c ro ty fl =>
    obtain ⟨cs, fr, h1, h2, h3, h4, h5, h6⟩ := h
    refine ⟨cs, fr, h1, h2, h3, h4, fun i v hv => ?_, h6⟩
    obtain ⟨v', a, b⟩ := h5 i v hv
    have hc : closed1 v = true := List.all_eq_true.1 hf v (List.mem_of_getElem? hv)
    rw [closedOneEq hc b] at a
    exact ⟨v, a, .closed1 hc⟩
  | map es clock =>
    obtain ⟨es', h1, h2, h3⟩ := h
    refine ⟨es', h1, h2, fun i x hx => ?_⟩
    obtain ⟨x', a, b, c, d⟩ := h3 i x hx
    have hc := List.all_eq_true.1 hf x (List.mem_of_getElem? hx)
    simp only [Bool.and_eq_true] at hc
    refine ⟨x', a, ?_, ?_, d⟩
    · rw [closedOneEq hc.1 b]; exact .closed1 hc.1
    · rw [closedOneEq hc.2 c]; exact .closed1 hc.2

section
variable {P : Program} {ti : TypeId → Option TypeInfo} {sk : TypeId → Bool} {X : Ctx}

/-- a state that another state holds -/
structure Part (G : GT) (σ0 σ : St) : Prop where
  sub : ∀ b x, σ0.heap.get b = some x → b < σ0.next ∧ flatBlk x = true ∧ σ.heap.get b = some x
  glob : ∀ g b, G g = some b → b < σ0.next

theorem Part.empty (lo : Nat) {σ : St} : Part (fun _ => none) { heap := .nil, next := 0, lo } σ :=
  ⟨(fun b x h => by cases h), (fun g b h => by cases h)⟩

/-- a call out of a part of the state, whose outcome holds no address, and that writes no block that was there -/
theorem memo_of {call : CallT} (hc : CallSound P X call) {f : FuncId} {args : List Value} {σ0 σ σ1 : St} {v : Value} {ids : List Nat} (part : Part X.G σ0 σ) (hargs : args.all closedC = true)
    (h : call f args σ0 = some (v, σ1, ids)) (hv : closedD v = true) (hlo : Nat.ble σ0.next σ1.lo = true) {G : GT} (hG : ∀ g b, X.G g = some b → G g = some b) : MemoOk P G f args σ v := by
  intro μ w args' ok hg hr o a next Q hn
  let μ0 : Mp := fun b => if b < σ0.next then μ b else none
  have ok0 : Ok μ0 w σ0 := by
    refine ⟨⟨fun b x hx => ?_, fun b b' x x' B l l' hx hx' h1 h2 => ?_⟩, fun b x hx => (part.sub b x hx).1, fun b hb => by simp only [μ0]; rw [if_neg (by omega)]⟩
    · obtain ⟨p1, p2, p3⟩ := part.sub b x hx
      obtain ⟨B, lim, e1, e2⟩ := ok.sim.live b x p3
      exact ⟨B, lim, by simp only [μ0]; rw [if_pos p1]; exact e1, e2.flat p2⟩
    · obtain ⟨p1, _, p3⟩ := part.sub b x hx
      obtain ⟨q1, _, q3⟩ := part.sub b' x' hx'
      simp only [μ0] at h1 h2
      rw [if_pos p1] at h1
      rw [if_pos q1] at h2
      exact ok.sim.inj b b' x x' B l l' p3 q3 h1 h2
  have hg0 : GRel X.G μ0 := fun g b hb => by
    obtain ⟨lim, hl⟩ := hg g b (hG g b hb)
    exact ⟨lim, by simp only [μ0]; rw [if_pos (part.glob g b hb)]; exact hl⟩
  have hr0 : RelL μ0 args args'.toList := by rw [closedCL_eq hargs hr]; exact RelL.closedC hargs
  refine hc f args σ0 v σ1 ids h μ0 w args' ok0 hg0 hr0 o a next Q fun μ' w' v' M st r => ?_
  have hM : ∀ b x, σ0.heap.get b = some x → ¬ M b := fun b x hx hMb => by
    have h1 := (part.sub b x hx).1
    have h2 := st.mlo b hMb
    have h3 := of_bleT hlo
    omega
  have hold : ∀ B, B < w.heap.size → w'.heap[B]? = w.heap[B]? := fun B hB => st.fr B hB fun b x lim hx _ => hM b x hx
  refine hn w' v' ⟨⟨⟨fun b x hx => ?_, ok.sim.inj⟩, ok.wf, ok.free⟩, Nat.le_refl _, st.size, Nat.le_refl _, fun _ h => h.elim, fun _ _ => rfl, fun b x _ hx => ⟨x, hx⟩, fun B hB _ => hold B hB, (fun b B lim hb hμ => by rw [ok.free b hb] at hμ; cases hμ), st.out⟩ ?_
  · obtain ⟨B, lim, e1, e2⟩ := ok.sim.live b x hx
    exact ⟨B, lim, e1, by rw [hold B e2.lt]; exact e2⟩
  · rw [closedD_eq hv r]; exact .closedD hv
end
end Go.Am

namespace Go.Am
noncomputable section
/- The machine with a path told beforehand: every branch goes as the path says; what must hold for that is gathered in a Bool. -/

abbrev PR (α : Type) := Option (α × Nat × Bool)
abbrev CallPT := FuncId → List Value → St → Nat → PR (Value × St × List Nat)

def guardP (env : Env) : Option (Nat × Bool) → Nat → PR Bool
  | none, p => some (true, p, true)
  | some (t, want), p => match env.get t with
    | some (.bool b) => some (Nat.beq (p % 2) 1, p / 2, (b == want) == Nat.beq (p % 2) 1)
    | some (.tuple _) => some (false, p, true)
    | _ => none

def runOpP (X : Ctx) (call : CallPT) (env : Env) (o : AOp) (σ : St) (p : Nat) : PR (Value × St × List Nat) :=
  match o with
  | .call f args => match evs X.G env args with
    | some vs => call f vs σ p
    | none => none
  | .callv f args => match ev X.G env f, evs X.G env args with
    | some (.func (.func f) first captured), some vs => call f (first.toList ++ vs ++ captured.toList) σ p
    | _, _ => none
  | o => match aop X.G X.L env o σ with
    | some (v, σ') => some ((v, σ', bif Nat.beq σ'.next σ.next then [] else [σ.next]), p, true)
    | none => none

def runOpsP (X : Ctx) (call : CallPT) : List AOper → Env → St → Nat → PR (Env × St)
  | [], env, σ, p => some ((env, σ), p, true)
  | o :: os, env, σ, p => match guardP env o.guard p with
    | some (true, p1, c1) => match runOpP X call env o.op σ p1 with
      | some ((v, σ', _), p2, c2) => match runOpsP X call os (putDst env o.dst v) σ' p2 with
        | some (r, p3, c3) => some (r, p3, c1 && (c2 && c3))
        | none => none
      | none => none
    | some (false, p1, c1) => match runOpsP X call os (putDst env o.dst (.tuple #[])) σ p1 with
      | some (r, p3, c3) => some (r, p3, c1 && c3)
      | none => none
    | none => none

/-- one operation of a region that draws its order, out of what the operation does -/
def stepDrawG (X : Ctx) (run : St → Option (Value × St × List Nat)) (g : Option Bool) (o : AOper) (i : Nat) (env : Env) (d : DSt) : Option (Env × DSt) :=
  match g with
  | none => none
  | some false => some (putDst env o.dst (.tuple #[]), d)
  | some true =>
    bif o.lonely then
      match run { heap := d.heap, next := d.next, lo := d.lo } with
      | some (v, σ, _) => bif Nat.ble d.next σ.next && Nat.ble σ.lo d.lo then some (putDst env o.dst v, { heap := σ.heap, next := σ.next, lo := σ.lo, own := d.own, rd := d.rd, hot := d.hot }) else none
      | none => none
    else match o.loud with
    | 0 => match run { heap := .nil, next := d.next, lo := d.next } with
      | some (v, σ, _) => bif Nat.beq σ.next d.next && Nat.beq σ.lo d.next then some (putDst env o.dst v, d) else none
      | none => none
    | 1 => match readOf X.G env o.op with
      | some b => bif memN b (hidden o.preds d.own) then none else bif apart o.preds b d.hot then
          match d.heap.get b with
          | some x => match run { heap := T.set .nil b (some x), next := d.next, lo := d.next } with
            | some (v, σ, _) => bif Nat.beq σ.next d.next && Nat.beq σ.lo d.next then
                some (putDst env o.dst v, { heap := d.heap, next := d.next, lo := d.lo, own := d.own, rd := (i, b) :: d.rd, hot := d.hot }) else none
            | none => none
          | none => none
        else none
      | none => match run { heap := .nil, next := d.next, lo := d.next } with
        | some (v, σ, ids) => bif Nat.ble d.next σ.lo && Nat.ble d.next σ.next && within d.next σ.next ids then
            some (putDst env o.dst v, { heap := patch σ.heap ids d.heap, next := σ.next, lo := d.lo, own := (match ids with | [] => d.own | _ => (i, ids) :: d.own), rd := d.rd, hot := d.hot })
          else none
        | none => none
    | _ =>
      let V := eraseL (hidden o.preds d.own) d.heap
      match run { heap := V, next := d.next, lo := d.next } with
      | some (v, σ, ids) =>
        bif Nat.ble d.next σ.next && within d.next σ.next ids then
        bif Nat.ble d.next σ.lo then
          some (putDst env o.dst v, { heap := patch σ.heap ids d.heap, next := σ.next, lo := d.lo, own := (match ids with | [] => d.own | _ => (i, ids) :: d.own), rd := d.rd, hot := d.hot })
        else bif Nat.beq o.loud 3 && apart o.preds σ.lo d.rd then
          match V.get σ.lo with
          | some _ => some (putDst env o.dst v, { heap := (patch σ.heap ids d.heap).set σ.lo (σ.heap.get σ.lo), next := σ.next, lo := bif Nat.ble σ.lo d.lo then σ.lo else d.lo, own := (match ids with | [] => d.own | _ => (i, ids) :: d.own), rd := d.rd, hot := (i, σ.lo) :: d.hot })
          | none => none
        else none
        else none
      | none => none

theorem stepDraw_eq (X : Ctx) (call : CallT) (o : AOper) (i : Nat) (env : Env) (d : DSt) : stepDraw X call o i env d = stepDrawG X (runOp X call env o.op) (guardOk env o.guard) o i env d := by
  unfold stepDraw stepDrawG
  cases guardOk env o.guard with
  | none => rfl
  | some b => cases b <;> rfl

/-- the state at which the operation runs -/
def drawAt (X : Ctx) (o : AOper) (env : Env) (d : DSt) : Option St :=
  bif o.lonely then some { heap := d.heap, next := d.next, lo := d.lo }
  else match o.loud with
  | 0 => some { heap := .nil, next := d.next, lo := d.next }
  | 1 => match readOf X.G env o.op with
    | some b => match d.heap.get b with
      | some x => some { heap := T.set .nil b (some x), next := d.next, lo := d.next }
      | none => none
    | none => some { heap := .nil, next := d.next, lo := d.next }
  | _ => some { heap := eraseL (hidden o.preds d.own) d.heap, next := d.next, lo := d.next }

theorem stepDrawG_at {X : Ctx} {run : St → Option (Value × St × List Nat)} {o : AOper} {i : Nat} {env : Env} {d : DSt} {s : St} {r : Value × St × List Nat} (hs : drawAt X o env d = some s) (hr : run s = some r) :
    stepDrawG X run (some true) o i env d = stepDrawG X (fun _ => some r) (some true) o i env d := by
  unfold drawAt at hs
  unfold stepDrawG
  cases hl : o.lonely with
  | true => rw [hl] at hs; cases hs; simp only [cond_true, hr]
  | false =>
    rw [hl] at hs
    simp only [cond_false] at hs ⊢
    split at hs
    · rename_i h0; cases hs; simp only [hr]
    · rename_i h0
      cases hb : readOf X.G env o.op with
      | none => rw [hb] at hs; cases hs; simp only [hr]
      | some b =>
        rw [hb] at hs
        simp only at hs ⊢
        cases hg : d.heap.get b with
        | none => first | rfl | (rw [hg] at hs; cases hs)
        | some x => rw [hg] at hs; cases hs; simp only [hr]
    · rename_i h0 h1
      cases hs
      simp only [hr]

def stepDrawP (X : Ctx) (call : CallPT) (o : AOper) (i : Nat) (env : Env) (d : DSt) (p : Nat) : PR (Env × DSt) :=
  match guardP env o.guard p with
  | none => none
  | some (false, p1, c1) => some ((putDst env o.dst (.tuple #[]), d), p1, c1)
  | some (true, p1, c1) => match drawAt X o env d with
    | none => none
    | some s => match runOpP X call env o.op s p1 with
      | none => none
      | some (r, p2, c2) => match stepDrawG X (fun _ => some r) (some true) o i env d with
        | none => none
        | some out => some (out, p2, c1 && c2)

def runDrawP (X : Ctx) (call : CallPT) : List AOper → Nat → Env → DSt → Nat → PR (Env × DSt)
  | [], _, env, d, p => some ((env, d), p, true)
  | o :: os, i, env, d, p => match stepDrawP X call o i env d p with
    | some ((env', d'), p1, c1) => match runDrawP X call os (i + 1) env' d' p1 with
      | some (r, p2, c2) => some (r, p2, c1 && c2)
      | none => none
    | none => none

def loopNP (body : Env → St → Nat → PR (Tag × Env × St)) : Nat → Env → St → Nat → PR (Tag × Env × St)
  | 0, _, _, _ => none
  | n + 1, env, σ, p => match body env σ p with
    | some ((.normal, env', σ'), p1, c1) => match loopNP body n env' σ' p1 with
      | some (r, p2, c2) => some (r, p2, c1 && c2)
      | none => none
    | r => r

def runCodeP (X : Ctx) (call : CallPT) : ACode → Env → St → Nat → PR (Tag × Env × St)
  | .skip, env, σ, p => some ((.normal, env, σ), p, true)
  | .region ops, env, σ, p => match runOpsP X call ops env σ p with
    | some ((env', σ'), p1, c1) => some ((.normal, env', σ'), p1, c1)
    | none => none
  | .draw ops, env, σ, p => match runDrawP X call ops 0 env { heap := σ.heap, next := σ.next, lo := σ.lo, own := [], rd := [], hot := [] } p with
    | some ((env', d), p1, c1) => some ((.normal, env', { heap := d.heap, next := d.next, lo := d.lo }), p1, c1)
    | none => none
  | .seq a b, env, σ, p => match runCodeP X call a env σ p with
    | some ((.normal, env', σ'), p1, c1) => match runCodeP X call b env' σ' p1 with
      | some (r, p2, c2) => some (r, p2, c1 && c2)
      | none => none
    | r => r
  | .cond c a b, env, σ, p => match ev X.G env c with
    | some (.bool t) => match Nat.beq (p % 2) 1 with
      | true => match runCodeP X call a env σ (p / 2) with
        | some (r, p2, c2) => some (r, p2, t && c2)
        | none => none
      | false => match runCodeP X call b env σ (p / 2) with
        | some (r, p2, c2) => some (r, p2, !t && c2)
        | none => none
    | _ => none
  | .block id a, env, σ, p => match runCodeP X call a env σ p with
    | some ((.exit id', env', σ'), p1, c1) => bif Nat.beq id' id then some ((.normal, env', σ'), p1, c1) else some ((.exit id', env', σ'), p1, c1)
    | r => r
  | .loop a, env, σ, p => loopNP (runCodeP X call a) X.lf env σ p
  | .exit id, env, σ, p => some ((.exit id, env, σ), p, true)
  | .ret, env, σ, p => some ((.ret, env, σ), p, true)
  | .bad, _, _, _ => none

def callBP (X : Ctx) (call : CallPT) : CallPT := fun f args σ p =>
  match X.ext f with
  | some e => match e args with
    | some v => some ((v, σ, []), p, true)
    | none => none
  | none => match X.fs f with
    | none => none
    | some fn => bif Nat.beq args.length fn.nparams then
        match runCodeP X call fn.body (envOf args) { heap := σ.heap, next := σ.next, lo := σ.next } p with
        | some ((tag, env, σ'), p1, c1) => match tag with
          | .exit _ => none
          | _ => match resultsOf X env fn.results σ' with
            | some (vs, σ'') => match leave σ (oneOf vs) σ'' with
              | some r => some (r, p1, c1)
              | none => none
            | none => none
        | none => none
      else none

def callNP (X : Ctx) : Nat → CallPT
  | 0 => fun _ _ _ _ => none
  | n + 1 => fun f args σ p =>
    match X.memo f args σ with
    | some (v, c) => some ((v, σ, []), p, c)
    | none => callBP X (callNP X n) f args σ p

/-! #### soundness -/
def CallPOk (callP : CallPT) (call : CallT) : Prop := ∀ f vs σ p r p', callP f vs σ p = some (r, p', true) → call f vs σ = some r

theorem guardP_ok {env : Env} {g : Option (Nat × Bool)} {p p' : Nat} {b : Bool} (h : guardP env g p = some (b, p', true)) : guardOk env g = some b := by
  cases g with
  | none => simp only [guardP, Option.some.injEq, Prod.mk.injEq] at h; obtain ⟨rfl, _⟩ := h; rfl
  | some x =>
    obtain ⟨t, want⟩ := x
    simp only [guardP] at h
    simp only [guardOk]
    cases hg : env.get t with
    | none => rw [hg] at h; cases h
    | some v =>
      rw [hg] at h
      cases v with
      | bool t' =>
        simp only [Option.some.injEq, Prod.mk.injEq] at h
        obtain ⟨rfl, _, h3⟩ := h
        simp only [Option.some.injEq]
        exact eq_of_beq h3
      | tuple vs => simp only [Option.some.injEq, Prod.mk.injEq] at h; obtain ⟨rfl, _⟩ := h; rfl
      | _ => cases h

section
variable {X : Ctx} {callP : CallPT} {call : CallT}

theorem runOpP_ok (hc : CallPOk callP call) {env : Env} {o : AOp} {σ : St} {p p' : Nat} {r : Value × St × List Nat} (h : runOpP X callP env o σ p = some (r, p', true)) : runOp X call env o σ = some r := by
  unfold runOpP at h
  unfold runOp
  split at h
  · split at h
    · rename_i hv; simp only [hv]; exact hc _ _ _ _ _ _ h
    · cases h
  · split at h
    · rename_i h1 h2; simp only [h1, h2]; exact hc _ _ _ _ _ _ h
    · cases h
  · split at h
    · rename_i v σ' ha
      simp only [Option.some.injEq, Prod.mk.injEq] at h
      obtain ⟨rfl, _⟩ := h
      split
      · simp [aop, H.fail] at ha
      · simp [aop, H.fail] at ha
      · simp only [ha]
    · cases h

theorem and3 {a b c : Bool} (h : (a && (b && c)) = true) : a = true ∧ b = true ∧ c = true := by simpa using h
theorem and2 {a b : Bool} (h : (a && b) = true) : a = true ∧ b = true := by simpa using h

theorem runOpsP_ok (hc : CallPOk callP call) : ∀ (os : List AOper) {env : Env} {σ : St} {p p' : Nat} {r : Env × St}, runOpsP X callP os env σ p = some (r, p', true) → runOps X call os env σ = some r
  | [], env, σ, p, p', r, h => by
    simp only [runOpsP, Option.some.injEq, Prod.mk.injEq] at h
    obtain ⟨rfl, _⟩ := h; rfl
  | o :: os, env, σ, p, p', r, h => by
    simp only [runOpsP] at h
    simp only [runOps]
    split at h
    · rename_i p1 c1 hg
      split at h
      · rename_i v σ' ids p2 c2 ho
        split at h
        · rename_i r' p3 c3 hr
          simp only [Option.some.injEq, Prod.mk.injEq] at h
          obtain ⟨rfl, rfl, h3⟩ := h
          obtain ⟨rfl, rfl, rfl⟩ := and3 h3
          rw [guardP_ok hg]
          simp only [runOpP_ok hc ho]
          exact runOpsP_ok hc os hr
        · cases h
      · cases h
    · rename_i p1 c1 hg
      split at h
      · rename_i r' p3 c3 hr
        simp only [Option.some.injEq, Prod.mk.injEq] at h
        obtain ⟨rfl, rfl, h3⟩ := h
        obtain ⟨rfl, rfl⟩ := and2 h3
        rw [guardP_ok hg]
        exact runOpsP_ok hc os hr
      · cases h
    · cases h

theorem stepDrawP_ok (hc : CallPOk callP call) {o : AOper} {i : Nat} {env : Env} {d : DSt} {p p' : Nat} {r : Env × DSt} (h : stepDrawP X callP o i env d p = some (r, p', true)) : stepDraw X call o i env d = some r := by
  rw [stepDraw_eq]
  unfold stepDrawP at h
  split at h
  · cases h
  · rename_i p1 c1 hg
    simp only [Option.some.injEq, Prod.mk.injEq] at h
    obtain ⟨rfl, rfl, rfl⟩ := h
    rw [guardP_ok hg]; rfl
  · rename_i p1 c1 hg
    split at h
    · cases h
    · rename_i s hs
      split at h
      · cases h
      · rename_i q p2 c2 ho
        split at h
        · cases h
        · rename_i out hout
          simp only [Option.some.injEq, Prod.mk.injEq] at h
          obtain ⟨rfl, rfl, h3⟩ := h
          obtain ⟨rfl, rfl⟩ := and2 h3
          rw [guardP_ok hg, stepDrawG_at hs (runOpP_ok hc ho), hout]

theorem runDrawP_ok (hc : CallPOk callP call) : ∀ (os : List AOper) {i : Nat} {env : Env} {d : DSt} {p p' : Nat} {r : Env × DSt}, runDrawP X callP os i env d p = some (r, p', true) → runDraw X call os i env d = some r
  | [], i, env, d, p, p', r, h => by
    simp only [runDrawP, Option.some.injEq, Prod.mk.injEq] at h
    obtain ⟨rfl, _⟩ := h; rfl
  | o :: os, i, env, d, p, p', r, h => by
    simp only [runDrawP] at h
    simp only [runDraw]
    split at h
    · rename_i env' d' p1 c1 hs
      split at h
      · rename_i r' p3 c3 hr
        simp only [Option.some.injEq, Prod.mk.injEq] at h
        obtain ⟨rfl, rfl, h3⟩ := h
        obtain ⟨rfl, rfl⟩ := and2 h3
        rw [stepDrawP_ok hc hs]
        exact runDrawP_ok hc os hr
      · cases h
    · cases h

theorem loopNP_ok {bodyP : Env → St → Nat → PR (Tag × Env × St)} {body : Env → St → Option (Tag × Env × St)} (hb : ∀ env σ p r p', bodyP env σ p = some (r, p', true) → body env σ = some r) :
    ∀ (n : Nat) {env : Env} {σ : St} {p p' : Nat} {r : Tag × Env × St}, loopNP bodyP n env σ p = some (r, p', true) → loopN body n env σ = some r
  | 0, env, σ, p, p', r, h => by cases h
  | n + 1, env, σ, p, p', r, h => by
    simp only [loopNP] at h
    simp only [loopN]
    split at h
    · rename_i env' σ' p1 c1 hs
      split at h
      · rename_i r' p3 c3 hr
        simp only [Option.some.injEq, Prod.mk.injEq] at h
        obtain ⟨rfl, rfl, h3⟩ := h
        obtain ⟨rfl, rfl⟩ := and2 h3
        rw [hb _ _ _ _ _ hs]
        exact loopNP_ok hb n hr
      · cases h
    · rename_i hne
      have := hb _ _ _ _ _ h
      rw [this]
      obtain ⟨tg, e, s⟩ := r
      cases tg with
      | normal => exact absurd h (hne _ _ _ _)
      | _ => rfl

theorem runCodeP_ok (hc : CallPOk callP call) : ∀ (c : ACode) {env : Env} {σ : St} {p p' : Nat} {r : Tag × Env × St}, runCodeP X callP c env σ p = some (r, p', true) → runCode X call c env σ = some r
  | .skip, env, σ, p, p', r, h => by simp only [runCodeP, Option.some.injEq, Prod.mk.injEq] at h; obtain ⟨rfl, _⟩ := h; rfl
  | .exit id, env, σ, p, p', r, h => by simp only [runCodeP, Option.some.injEq, Prod.mk.injEq] at h; obtain ⟨rfl, _⟩ := h; rfl
  | .ret, env, σ, p, p', r, h => by simp only [runCodeP, Option.some.injEq, Prod.mk.injEq] at h; obtain ⟨rfl, _⟩ := h; rfl
  | .bad, env, σ, p, p', r, h => by cases h
  | .region ops, env, σ, p, p', r, h => by
    simp only [runCodeP] at h
    simp only [runCode]
    split at h
    · rename_i hs
      simp only [Option.some.injEq, Prod.mk.injEq] at h
      obtain ⟨rfl, rfl, rfl⟩ := h
      rw [runOpsP_ok hc ops hs]
    · cases h
  | .draw ops, env, σ, p, p', r, h => by
    simp only [runCodeP] at h
    simp only [runCode]
    split at h
    · rename_i hs
      simp only [Option.some.injEq, Prod.mk.injEq] at h
      obtain ⟨rfl, rfl, rfl⟩ := h
      rw [runDrawP_ok hc ops hs]
    · cases h
  | .seq a b, env, σ, p, p', r, h => by
    simp only [runCodeP] at h
    simp only [runCode]
    split at h
    · rename_i env' σ' p1 c1 hs
      split at h
      · rename_i r' p3 c3 hr
        simp only [Option.some.injEq, Prod.mk.injEq] at h
        obtain ⟨rfl, rfl, h3⟩ := h
        obtain ⟨rfl, rfl⟩ := and2 h3
        rw [runCodeP_ok hc a hs]
        exact runCodeP_ok hc b hr
      · cases h
    · rename_i hne
      rw [runCodeP_ok hc a h]
      obtain ⟨tg, e, s⟩ := r
      cases tg with
      | normal => exact absurd h (hne _ _ _ _)
      | _ => rfl
  | .cond k a b, env, σ, p, p', r, h => by
    simp only [runCodeP] at h
    simp only [runCode]
    split at h
    · rename_i t hv
      rw [hv]
      split at h
      · split at h
        · rename_i r' p2 c2 hr
          simp only [Option.some.injEq, Prod.mk.injEq] at h
          obtain ⟨rfl, rfl, h3⟩ := h
          obtain ⟨rfl, rfl⟩ := and2 h3
          exact runCodeP_ok hc a hr
        · cases h
      · split at h
        · rename_i r' p2 c2 hr
          simp only [Option.some.injEq, Prod.mk.injEq] at h
          obtain ⟨rfl, rfl, h3⟩ := h
          obtain ⟨h4, rfl⟩ := and2 h3
          have : t = false := by simpa using h4
          subst this
          exact runCodeP_ok hc b hr
        · cases h
    · cases h
  | .block id a, env, σ, p, p', r, h => by
    simp only [runCodeP] at h
    simp only [runCode]
    split at h
    · rename_i id' env' σ' p1 c1 hs
      cases hb : Nat.beq id' id with
      | true =>
        rw [hb] at h
        simp only [cond_true, Option.some.injEq, Prod.mk.injEq] at h
        obtain ⟨rfl, rfl, rfl⟩ := h
        rw [runCodeP_ok hc a hs]
        simp only [hb, cond_true]
      | false =>
        rw [hb] at h
        simp only [cond_false, Option.some.injEq, Prod.mk.injEq] at h
        obtain ⟨rfl, rfl, rfl⟩ := h
        rw [runCodeP_ok hc a hs]
        simp only [hb, cond_false]
    · rename_i hne
      rw [runCodeP_ok hc a h]
      obtain ⟨tg, e, s⟩ := r
      cases tg with
      | exit id' => exact absurd h (hne _ _ _ _ _)
      | _ => rfl
  | .loop a, env, σ, p, p', r, h => by
    simp only [runCodeP] at h
    simp only [runCode]
    exact loopNP_ok (fun env σ p r p' h => runCodeP_ok hc a h) X.lf h

theorem callBP_ok (hc : CallPOk callP call) : CallPOk (callBP X callP) (callB X call) := by
  intro f vs σ p r p' h
  unfold callBP at h
  unfold callB
  cases he : X.ext f with
  | some e =>
    rw [he] at h
    simp only at h ⊢
    cases hv : e vs with
    | none => rw [hv] at h; cases h
    | some u => rw [hv] at h; simp only [Option.some.injEq, Prod.mk.injEq] at h; obtain ⟨rfl, _⟩ := h; rfl
  | none =>
    rw [he] at h
    simp only at h ⊢
    cases hf : X.fs f with
    | none => rw [hf] at h; cases h
    | some af =>
      rw [hf] at h
      simp only at h ⊢
      cases hl : Nat.beq vs.length af.nparams with
      | false => rw [hl] at h; cases h
      | true =>
        rw [hl] at h
        simp only [cond_true] at h ⊢
        split at h
        · rename_i tag env σ' p1 c1 hs
          cases tag with
          | exit id => cases h
          | normal =>
            simp only at h
            split at h
            · rename_i hres
              split at h
              · rename_i hlv
                simp only [Option.some.injEq, Prod.mk.injEq] at h
                obtain ⟨rfl, rfl, rfl⟩ := h
                rw [runCodeP_ok hc _ hs]
                simp only [hres, hlv]
              · cases h
            · cases h
          | ret =>
            simp only at h
            split at h
            · rename_i hres
              split at h
              · rename_i hlv
                simp only [Option.some.injEq, Prod.mk.injEq] at h
                obtain ⟨rfl, rfl, rfl⟩ := h
                rw [runCodeP_ok hc _ hs]
                simp only [hres, hlv]
              · cases h
            · cases h
        · cases h

theorem callNP_ok : ∀ n, CallPOk (callNP X n) (callN X n)
  | 0 => fun f vs σ p r p' h => by cases h
  | n + 1 => fun f vs σ p r p' h => by
    simp only [callNP] at h
    simp only [callN]
    cases hm : X.memo f vs σ with
    | some q =>
      obtain ⟨v, c⟩ := q
      rw [hm] at h
      simp only [Option.some.injEq, Prod.mk.injEq] at h
      obtain ⟨rfl, _, rfl⟩ := h
      rfl
    | none =>
      rw [hm] at h
      exact callBP_ok (callNP_ok n) _ _ _ _ _ _ h
end
end
end Go.Am

namespace Go.Am
noncomputable section
/- Tables of calls whose outcome is known. -/

def eqB : List UInt8 → List UInt8 → Bool
  | [], [] => true
  | x :: xs, y :: ys => Nat.beq x.toNat y.toNat && eqB xs ys
  | _, _ => false
theorem eqB_eq : ∀ {a b : List UInt8}, eqB a b = true → a = b
  | [], [], _ => rfl
  | x :: xs, y :: ys, h => by
    simp only [eqB, Bool.and_eq_true] at h
    rw [eqB_eq h.2, UInt8.toNat_inj.1 (of_beqT h.1)]
  | [], _ :: _, h => by cases h
  | _ :: _, [], h => by cases h
def eqI : Int → Int → Bool
  | .ofNat a, .ofNat b => Nat.beq a b
  | .negSucc a, .negSucc b => Nat.beq a b
  | _, _ => false
theorem eqI_eq : ∀ {a b : Int}, eqI a b = true → a = b
  | .ofNat a, .ofNat b, h => by rw [of_beqT (a := a) (b := b) h]
  | .negSucc a, .negSucc b, h => by rw [of_beqT (a := a) (b := b) h]
  | .ofNat _, .negSucc _, h => by cases h
  | .negSucc _, .ofNat _, h => by cases h
def eqT : Bool → Bool → Bool
  | true, b => b
  | false, true => false
  | false, false => true
theorem eqT_eq : ∀ {a b : Bool}, eqT a b = true → a = b
  | true, true, _ => rfl
  | false, false, _ => rfl
  | true, false, h => by cases h
  | false, true, h => by cases h
def eq1 : Value → Value → Bool
  | .bool a, .bool b => eqT a b
  | .int k a, .int k' b => eqI a b && decide (k = k')
  | .string a, .string b => eqB a.data.toList b.data.toList
  | .pointer none, .pointer none => true
  | .slice none 0 0, .slice none 0 0 => true
  | .nilIface, .nilIface => true
  | .nilFunc, .nilFunc => true
  | _, _ => false
theorem eqOneEq {a b : Value} (h : eq1 a b = true) : a = b := by
  unfold eq1 at h
  split at h
  · rw [eqT_eq h]
  · simp only [Bool.and_eq_true, decide_eq_true_eq] at h
    rw [eqI_eq h.1, h.2]
  · rename_i x y
    obtain ⟨⟨x⟩⟩ := x
    obtain ⟨⟨y⟩⟩ := y
    have : x = y := eqB_eq h
    rw [this]
  · rfl
  · rfl
  · rfl
  · rfl
  · cases h
def eqL1 : List Value → List Value → Bool
  | [], [] => true
  | x :: xs, y :: ys => eq1 x y && eqL1 xs ys
  | _, _ => false
theorem eqLOneEq : ∀ {a b : List Value}, eqL1 a b = true → a = b
  | [], [], _ => rfl
  | x :: xs, y :: ys, h => by
    simp only [eqL1, Bool.and_eq_true] at h
    rw [eqOneEq h.1, eqLOneEq h.2]
  | [], _ :: _, h => by cases h
  | _ :: _, [], h => by cases h
def eqC : Value → Value → Bool
  | .agg a, .agg b => eqL1 a.toList b.toList
  | a, b => eq1 a b
theorem eqC_eq {a b : Value} (h : eqC a b = true) : a = b := by
  unfold eqC at h
  split at h
  · rename_i x y
    obtain ⟨x⟩ := x
    obtain ⟨y⟩ := y
    have : x = y := eqLOneEq h
    rw [this]
  · exact eqOneEq h
def eqLC : List Value → List Value → Bool
  | [], [] => true
  | x :: xs, y :: ys => eqC x y && eqLC xs ys
  | _, _ => false
theorem eqLC_eq : ∀ {a b : List Value}, eqLC a b = true → a = b
  | [], [], _ => rfl
  | x :: xs, y :: ys, h => by
    simp only [eqLC, Bool.and_eq_true] at h
    rw [eqC_eq h.1, eqLC_eq h.2]
  | [], _ :: _, h => by cases h
  | _ :: _, [], h => by cases h
def eqD : Value → Value → Bool
  | .tuple a, .tuple b => eqLC a.toList b.toList
  | a, b => eqC a b
theorem eqD_eq {a b : Value} (h : eqD a b = true) : a = b := by
  unfold eqD at h
  split at h
  · rename_i x y
    obtain ⟨x⟩ := x
    obtain ⟨y⟩ := y
    have : x = y := eqLC_eq h
    rw [this]
  · exact eqC_eq h

/-- a row: the arguments, the outcome -/
abbrev Row := List Value × Value
def findRow (args : List Value) : List Row → Option Value
  | [] => none
  | (a, v) :: rest => bif eqLC args a then some v else findRow args rest
theorem findRow_mem {args : List Value} {v : Value} : ∀ {l : List Row}, findRow args l = some v → (args, v) ∈ l
  | [], h => by cases h
  | (a, u) :: rest, h => by
    simp only [findRow] at h
    cases hb : eqLC args a with
    | true =>
      rw [hb] at h
      simp only [cond_true, Option.some.injEq] at h
      rw [eqLC_eq hb, h]
      exact List.mem_cons_self
    | false =>
      rw [hb] at h
      exact List.mem_cons_of_mem _ (findRow_mem h)

abbrev Tab := List (FuncId × List Row)
def tabOf (t : Tab) : T (List Row) := t.foldl (fun m e => m.set e.1 (some e.2)) .nil
/-- the table as a memory; where it says nothing: the elder one -/
def memoTab (m : T (List Row)) (old : FuncId → List Value → St → Option (Value × Bool)) : FuncId → List Value → St → Option (Value × Bool) := fun f args σ =>
  match m.get f with
  | none => old f args σ
  | some l => match findRow args l with
    | some v => some (v, true)
    | none => old f args σ

theorem tabOf_get {f : FuncId} {l : List Row} : ∀ {t : Tab} {m : T (List Row)}, (t.foldl (fun m e => m.set e.1 (some e.2)) m).get f = some l → (f, l) ∈ t ∨ m.get f = some l
  | [], m, h => .inr h
  | e :: t, m, h => by
    rcases tabOf_get (t := t) h with h | h
    · exact .inl (List.mem_cons_of_mem _ h)
    · rw [T.get_set] at h
      by_cases e' : f = e.1
      · rw [if_pos e'] at h
        cases h
        obtain ⟨e1, e2⟩ := e
        simp only at e'
        subst e'
        exact .inl List.mem_cons_self
      · rw [if_neg e'] at h
        exact .inr h

/-- the run of one row, from nothing -/
def chkRow (X : Ctx) (n : Nat) (f : FuncId) (r : Row) : Bool :=
  r.1.all closedC && closedD r.2 && match callN X n f r.1 { heap := .nil, next := 0, lo := big } with
    | some (v, _, _) => eqD v r.2
    | none => false
def chkRows (X : Ctx) (n : Nat) (f : FuncId) : List Row → Bool
  | [] => true
  | r :: rest => chkRow X n f r && chkRows X n f rest
def chkTab (X : Ctx) (n : Nat) : Tab → Bool
  | [] => true
  | e :: rest => chkRows X n e.1 e.2 && chkTab X n rest

section
variable {P : Program} {ti : TypeId → Option TypeInfo} {sk : TypeId → Bool} {X : Ctx}
theorem chkRows_mem {n : Nat} {f : FuncId} {r : Row} : ∀ {l : List Row}, chkRows X n f l = true → r ∈ l → chkRow X n f r = true
  | [], _, h => by cases h
  | a :: l, h, hm => by
    simp only [chkRows, Bool.and_eq_true] at h
    cases hm with
    | head => exact h.1
    | tail _ hm => exact chkRows_mem h.2 hm
theorem chkTab_mem {n : Nat} {e : FuncId × List Row} : ∀ {t : Tab}, chkTab X n t = true → e ∈ t → chkRows X n e.1 e.2 = true
  | [], _, h => by cases h
  | a :: l, h, hm => by
    simp only [chkTab, Bool.and_eq_true] at h
    cases hm with
    | head => exact h.1
    | tail _ hm => exact chkTab_mem h.2 hm

theorem memo_row (K : XOk P ti sk X) (hG : X.G = fun _ => none) {n : Nat} {f : FuncId} {r : Row} (h : chkRow X n f r = true) (G : GT) (σ : St) : MemoOk P G f r.1 σ r.2 := by
  unfold chkRow at h
  simp only [Bool.and_eq_true] at h
  obtain ⟨⟨h1, h2⟩, h3⟩ := h
  split at h3
  · rename_i v σ1 ids hr
    rw [eqD_eq h3] at hr
    refine memo_of (callN_sound K n) (σ0 := { heap := .nil, next := 0, lo := big }) ⟨(fun b x h => by cases h), (fun g b h => by rw [hG] at h; cases h)⟩ h1 hr h2 ?_ (fun g b h => by rw [hG] at h; cases h)
    exact Nat.ble_eq_true_of_le (Nat.zero_le _)
  · cases h3

/-- a memory that is right whatever the package-level variables are -/
def MemoAll (P : Program) (m : FuncId → List Value → St → Option (Value × Bool)) : Prop := ∀ G f args σ v, m f args σ = some (v, true) → MemoOk P G f args σ v
theorem memoAll_none : MemoAll P (fun _ _ _ => none) := fun _ _ _ _ _ h => by cases h

/-- a table is right whose rows were run -/
theorem memoTab_all (K : XOk P ti sk X) (hG : X.G = fun _ => none) {n : Nat} {t : Tab} (h : chkTab X n t = true) {old : FuncId → List Value → St → Option (Value × Bool)} (ho : MemoAll P old) : MemoAll P (memoTab (tabOf t) old) := by
  intro G f args σ v hv
  simp only [memoTab] at hv
  split at hv
  · exact ho G f args σ v hv
  · rename_i l hl
    split at hv
    · rename_i u hu
      simp only [Option.some.injEq, Prod.mk.injEq] at hv
      obtain ⟨rfl, _⟩ := hv
      rcases tabOf_get (m := .nil) hl with hm | hm
      · exact memo_row K hG (chkRows_mem (chkTab_mem h hm) (findRow_mem hu)) _ _
      · cases hm
    · exact ho G f args σ v hv

/-- a context with another memory and other places of the package-level variables -/
theorem XOk.with (K : XOk P ti sk X) (G : GT) {m : FuncId → List Value → St → Option (Value × Bool)} (h : MemoAll P m) : XOk P ti sk { X with G := G, memo := m } :=
  { tok := K.tok, mix := K.mix, lies := K.lies, fs := K.fs, ext := K.ext, memo := h G }
end
end
end Go.Am

namespace Go.Am
noncomputable section
/- Calls of open arguments whose outcome is a number (a sign, two texts): known up to the texts. -/

def strAt (i : Nat) : Option Value → ByteArray
  | some (.agg cs) => match cs.toList[i]? with
    | some (.string s) => s
    | _ => .empty
  | _ => .empty
def isRat : Option Value → Bool
  | some (.agg ⟨[.bool false, .string _, .string _]⟩) => true
  | _ => false
/-- the outcome, laid open, and whether it is one -/
def ratOf (r : Option Value) : Value × Bool := (.agg ⟨[.bool false, .string (strAt 1 r), .string (strAt 2 r)]⟩, isRat r)
theorem ratOf_eq {r : Option Value} (h : isRat r = true) : r = some (ratOf r).1 := by
  unfold isRat at h
  split at h
  · rfl
  · cases h
theorem ratOf_closed (r : Option Value) : closedD (ratOf r).1 = true := rfl

def resOf (r : Option (Value × St × List Nat)) : Option Value := match r with
  | some (v, _, _) => some v
  | none => none
def resOfP (r : PR (Value × St × List Nat)) : Bool := match r with
  | some ((v, _, _), _, c) => isRat (some v) && c
  | none => false
def nothing : St := { heap := .nil, next := 0, lo := big }

section
variable {P : Program} {ti : TypeId → Option TypeInfo} {sk : TypeId → Bool} {X : Ctx}
/-- of an open run that goes as the path says -/
theorem isRat_of_path {n : Nat} {f : FuncId} {args : List Value} {σ : St} {p : Nat} (h : resOfP (callNP X n f args σ p) = true) : isRat (resOf (callN X n f args σ)) = true := by
  unfold resOfP at h
  split at h
  · rename_i v σ1 ids p1 c hr
    simp only [Bool.and_eq_true] at h
    obtain ⟨h1, rfl⟩ := h
    rw [callNP_ok n _ _ _ _ _ _ hr]
    exact h1
  · cases h

/-- the outcome of a call from nothing, as a memory of function f -/
def memoRun (X : Ctx) (n : Nat) (f : FuncId) (old : FuncId → List Value → St → Option (Value × Bool)) : FuncId → List Value → St → Option (Value × Bool) := fun g args σ =>
  bif Nat.beq g f then some ((ratOf (resOf (callN X n f args nothing))).1, isRat (resOf (callN X n f args nothing)) && args.all scal) else old g args σ
theorem scal_closedC {v : Value} (h : scal v = true) : closedC v = true := by
  cases v <;> first | rfl | (simp [scal] at h)
theorem scalL_closedC {l : List Value} (h : l.all scal = true) : l.all closedC = true := by
  rw [List.all_eq_true] at h ⊢
  exact fun v hv => scal_closedC (h v hv)
theorem memoRun_all (K : XOk P ti sk X) (hG : X.G = fun _ => none) (n : Nat) (f : FuncId) {old : FuncId → List Value → St → Option (Value × Bool)} (ho : MemoAll P old) : MemoAll P (memoRun X n f old) := by
  intro G g args σ v hv
  unfold memoRun at hv
  cases hb : Nat.beq g f with
  | false => rw [hb] at hv; exact ho G g args σ v hv
  | true =>
    rw [hb] at hv
    obtain rfl := of_beqT hb
    simp only [cond_true, Option.some.injEq, Prod.mk.injEq, Bool.and_eq_true] at hv
    obtain ⟨rfl, h1, h2⟩ := hv
    have he := ratOf_eq h1
    generalize hr : callN X n g args nothing = r at *
    cases r with
    | none => cases he
    | some q =>
      obtain ⟨v, σ1, ids⟩ := q
      simp only [resOf, Option.some.injEq] at he
      refine memo_of (callN_sound K n) (σ0 := nothing) ⟨(fun b x h => by cases h), (fun g b h => by rw [hG] at h; cases h)⟩ (scalL_closedC h2) (hr.trans (congrArg (fun u => some (u, σ1, ids)) he)) (ratOf_closed _) (Nat.ble_eq_true_of_le (Nat.zero_le _)) (fun g b h => by rw [hG] at h; cases h)

/-- the rows of a table, as a memory of open arguments -/
def memoOpen (f : FuncId) (l : List Row) (old : FuncId → List Value → St → Option (Value × Bool)) : FuncId → List Value → St → Option (Value × Bool) := fun g args σ =>
  bif Nat.beq g f then some (ratOf (findRow args l)) else old g args σ
theorem memoOpen_all (K : XOk P ti sk X) (hG : X.G = fun _ => none) {n : Nat} {f : FuncId} {l : List Row} (h : chkRows X n f l = true) {old : FuncId → List Value → St → Option (Value × Bool)} (ho : MemoAll P old) : MemoAll P (memoOpen f l old) := by
  intro G g args σ v hv
  unfold memoOpen at hv
  cases hb : Nat.beq g f with
  | false => rw [hb] at hv; exact ho G g args σ v hv
  | true =>
    rw [hb] at hv
    obtain rfl := of_beqT hb
    simp only [cond_true, Option.some.injEq] at hv
    have h1 : isRat (findRow args l) = true := congrArg Prod.snd hv
    have h2 : (ratOf (findRow args l)).1 = v := congrArg Prod.fst hv
    have he := ratOf_eq h1
    rw [h2] at he
    exact memo_row K hG (chkRows_mem h (findRow_mem he)) _ _
end
end
end Go.Am

namespace Go.Am
section
variable {P : Program} {ti : TypeId → Option TypeInfo} {sk : TypeId → Bool} {X : Ctx}

/-- a run of the abstract machine says what a call does -/
theorem calls_of_callN (K : XOk P ti sk X) {n : Nat} {f : FuncId} {vs : List Value} {σ σ' : St} {v : Value} {ids : List Nat} (h : callN X n f vs σ = some (v, σ', ids)) {μ : Mp} {w : World} {args : Array Value}
    (ok : Ok μ w σ) (hg : GRel X.G μ) (hr : RelL μ vs args.toList) {fn : Func} {c : Code} (hf : P.funcs[f]? = some fn) (hb : fn.body = some c) (hname : (fn.name == "runtime.NumGoroutine") = false) :
    Calls P f args w fun e w' => ∃ v' μ' M, e = .returned v' ∧ Step M μ w σ μ' w' σ' ∧ Rel μ' v v' := by
  have f3' : ¬ (fn.name = "runtime.NumGoroutine") := by simpa using hname
  have henter : (callFunc f args).run P w = .ok (.enter f args) w := by simp [callFunc, program, Sem.run, hf, f3', hb]
  have := callN_sound K n f vs σ v σ' ids h μ w args ok hg hr { dst := some 0, op := .move (.tmp 0), guard := none, after := #[], type := 0, pos := default } { tmps := #[undef], defers := [] }
    (fun a' w' => ∃ v' μ' M, a'.tmps = #[v'] ∧ Step M μ w σ μ' w' σ' ∧ Rel μ' v v') (fun _ _ _ => False) (fun μ' w' v' M st r => ⟨v', μ', M, rfl, st, r⟩)
  rw [henter, Oper.upon_enter] at this
  refine this.mono fun e w' he => ?_
  cases e with
  | returned u =>
    obtain ⟨v', μ', M, h1, h2, h3⟩ := he
    have h1' : (#[u] : Array Value) = #[v'] := h1
    have : u = v' := by simpa using h1'
    subst this
    exact ⟨u, μ', M, rfl, h2, h3⟩
  | panicked c => exact he.elim
  | outgrown => simp [LetsOut] at he
end
end Go.Am

