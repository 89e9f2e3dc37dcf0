/-
  The abstract machine: what an operation does is sound, first part.
-/
import Derived.Test.YtkhhjbmkahibaaaGreatDoorAmA
set_option linter.unusedVariables false
set_option linter.unusedSimpArgs false
set_option linter.unusedSectionVars false
set_option linter.unnecessarySimpa false
namespace Go.Am

def nv : Next → Option Value
  | .value v => some v
  | .skip => some undef
  | _ => none

def OpOut (P : Program) (ρ : Operand → Value) (o : Oper) (μ : Mp) (w : World) (σ : St) (v : Value) (σ' : St) : Prop :=
  ∃ n w' μ' M v', (execOp ρ o).run P w = .ok n w' ∧ Step M μ w σ μ' w' σ' ∧ nv n = some v' ∧ Rel μ' v v' ∧ ∀ b, M b → σ'.lo = min b σ.lo

section
variable {P : Program} {ti : TypeId → Option TypeInfo} (hti : ∀ t i, ti t = some i → P.info? t = some i)
include hti
theorem und_spec {t : TypeId} {d : TypeDesc} (h : und ti t = some d) : P.underlying t = some d := by
  unfold und at h
  cases h1 : ti t with
  | none => rw [h1] at h; simp at h
  | some i =>
    rw [h1] at h
    have e1 := hti t i h1
    unfold Program.underlying
    rw [e1]
    obtain ⟨desc, _⟩ := i
    cases desc with
    | named nm u =>
      simp only at h ⊢
      cases h2 : ti u with
      | none => rw [h2] at h; simp at h
      | some j => rw [h2] at h; simp at h; rw [hti u j h2]; simp [h]
    | _ => simp_all
theorem run_und {t : TypeId} {d : TypeDesc} (h : und ti t = some d) (w : World) : (underlying t).run P w = .ok d w := run_underlying (und_spec hti h) w
theorem run_info {t : TypeId} {i : TypeInfo} (h : ti t = some i) (w : World) : (typeInfo t).run P w = .ok i w := by simp [typeInfo, hti t i h]
theorem run_size {t : TypeId} {n : Nat} (h : cellsOf? ti t = some n) (w : World) : (sizeOf t).run P w = .ok n w := by
  unfold cellsOf? at h
  cases h1 : ti t with
  | none => rw [h1] at h; simp at h
  | some i => rw [h1] at h; simp at h; simp [sizeOf, run_info hti h1, h]
theorem run_zero {t : TypeId} {z : Value} (h : zeroOf? ti t = some z) (w : World) : (zeroValue t).run P w = .ok z w := by
  unfold zeroOf? at h
  cases h1 : ti t with
  | none => rw [h1] at h; simp at h
  | some i => rw [h1] at h; simp at h; simp [zeroValue, run_info hti h1, h]
theorem run_agg {t : TypeId} {a : Bool} (h : aggOf ti t = some a) (w : World) : (isAgg t).run P w = .ok a w := by
  unfold aggOf at h
  cases h1 : und ti t with
  | none => rw [h1] at h; simp at h
  | some d =>
    rw [h1] at h
    simp only [isAgg, Sem.run_bind, run_und hti h1, Result.andThen]
    cases d <;> simp_all
end

theorem zeroCells_spec {ti : TypeId → Option TypeInfo} {t : TypeId} {z : List Value} (h : zeroCells? ti t = some z) : ∃ zv, zeroOf? ti t = some zv ∧ zv.cells.toList = z ∧ z.all closed1 = true := by
  unfold zeroCells? at h
  cases h1 : zeroOf? ti t with
  | none => rw [h1] at h; simp at h
  | some zv =>
    rw [h1] at h
    simp only at h
    cases h2 : (vcells zv).all closed1 with
    | false => rw [h2] at h; simp at h
    | true =>
      rw [h2] at h; simp at h
      refine ⟨zv, rfl, ?_, by rw [← h]; exact h2⟩
      rw [← h]
      cases zv <;> simp [Value.cells, vcells]

section
variable {P : Program} {ρ : Operand → Value} {o : Oper} {μ : Mp} {w : World} {σ σ' : St} {v : Value}

theorem OpOut.pure (ok : Ok μ w σ) {n : Next} {v' : Value} (hr : (execOp ρ o).run P w = .ok n w) (hn : nv n = some v') (h : Rel μ v v') : OpOut P ρ o μ w σ v σ :=
  ⟨n, w, μ, _, v', hr, Step.refl ok, hn, h, fun _ h => h.elim⟩

theorem H.opt_some {α : Type} {x : Option α} {a : α} {σ σ' : St} (h : H.opt x σ = some (a, σ')) : x = some a ∧ σ' = σ := by
  cases x with
  | none => simp [H.opt] at h
  | some y => simp [H.opt] at h; exact ⟨by rw [h.1], h.2.symm⟩
theorem H.pure_some {α : Type} {x a : α} {σ σ' : St} (h : (Pure.pure x : H α) σ = some (a, σ')) : x = a ∧ σ' = σ := by
  simp [Pure.pure, H.pure] at h; exact ⟨h.1, h.2.symm⟩
theorem H.bind_some {α β : Type} {m : H α} {k : α → H β} {b : β} {σ σ' : St} (h : (m >>= k) σ = some (b, σ')) : ∃ a σ1, m σ = some (a, σ1) ∧ k a σ1 = some (b, σ') := by
  simp only [Bind.bind, H.bind] at h
  cases hm : m σ with
  | none => rw [hm] at h; simp at h
  | some x => obtain ⟨a, σ1⟩ := x; rw [hm] at h; exact ⟨a, σ1, rfl, h⟩
theorem H.fail_some {α : Type} {a : α} {σ σ' : St} (h : (H.fail : H α) σ = some (a, σ')) : False := by simp [H.fail] at h
theorem getCells_some {b : Nat} {r : List Value × Nat × TypeId × Nat} {σ σ' : St} (h : getCells b σ = some (r, σ')) : σ.heap.get b = some (.cells r.1 r.2.1 r.2.2.1 r.2.2.2) ∧ σ' = σ := by
  unfold getCells at h
  split at h
  · rename_i c ro ty fl hb; simp at h; obtain ⟨rfl, rfl⟩ := h; exact ⟨hb, rfl⟩
  · simp at h
theorem newBlk_some {x : Blk} {b : Nat} {σ σ' : St} (h : newBlk x σ = some (b, σ')) : b = σ.next ∧ σ' = { heap := σ.heap.set σ.next (some x), next := σ.next + 1, lo := σ.lo } := by
  simp [newBlk] at h; exact ⟨h.1.symm, h.2.symm⟩

variable {G : GT} {L : TypeId → Nat → Nat → TypeId → Bool} {env : Env} {D : Operand → Bool}

/-- what the operands hold -/
def OpdRel (D : Operand → Bool) (G : GT) (env : Env) (μ : Mp) (ρ : Operand → Value) : Prop := ∀ x, D x = true → ∀ v, ev G env (opd x) = some v → Rel μ v (ρ x)

theorem OpdRel.mono {μ' : Mp} (h : OpdRel D G env μ ρ) (e : Ext μ μ') : OpdRel D G env μ' ρ := fun x hx v hv => (h x hx v hv).mono e

theorem OpdRel.list (h : OpdRel D G env μ ρ) : ∀ {l : List Operand} {vs : List Value}, l.all D = true → evs G env (l.map opd) = some vs → RelL μ vs (l.map ρ)
  | [], vs, _, hv => by simp [evs] at hv; subst hv; exact .nil
  | x :: xs, vs, hx, hv => by
    simp only [List.map_cons, evs] at hv
    simp only [List.all_cons, Bool.and_eq_true] at hx
    cases h1 : ev G env (opd x) with
    | none => rw [h1] at hv; simp at hv
    | some a =>
      cases h2 : evs G env (xs.map opd) with
      | none => rw [h1, h2] at hv; simp at hv
      | some b =>
        rw [h1, h2] at hv; simp at hv; subst hv
        exact .cons (h x hx.1 a h1) (h.list hx.2 h2)

theorem FrOk.new (fl size : Nat) : FrOk fl 0 size (0, 0) := ⟨fun i _ _ => by simp, fun _ => ⟨0, Nat.le_refl _, rfl⟩⟩

/-- a new row, at its own block -/
theorem OpOut.new (ok : Ok μ w σ) {c : List Value} {ty : TypeId} {fl lim : Nat} {cs : List Value} {mk : Nat → Value} {v' : Value} {w1 : World} (hw1 : w1.heap = w.heap.push (.cells cs.toArray ty))
    (hr : (execOp ρ o).run P w = .ok (.value v') w1)
    (hc : RelL μ c (cs.take c.length)) (hl : c.length ≤ lim) (hl2 : lim ≤ cs.length) (hfl : fl = 0 → cs.length = c.length)
    (hv : Rel (μ.up σ.next w.heap.size lim) (mk σ.next) v') (ho : SameOut w w1 := by exact ⟨rfl, rfl⟩) :
    OpOut P ρ o μ w σ (mk σ.next) { heap := σ.heap.set σ.next (some (.cells c 0 ty fl)), next := σ.next + 1, lo := σ.lo } := by
  have hext := Mp.up_ext (B := w.heap.size) (lim := lim) (ok.free σ.next (Nat.le_refl _))
  refine ⟨.value v', w1, _, _, v', hr, Step.newBlk ok (.cells c 0 ty fl) _ lim w1 hw1 ?_ ho, rfl, hv, fun _ h => h.elim⟩
  refine ⟨cs.toArray, (0, 0), rfl, hl, by simpa using hl2, fun e => by simpa using hfl e, fun i u hu => ?_, ?_⟩
  · obtain ⟨y, hy, hxy⟩ := hc.get hu
    refine ⟨y, ?_, hxy.mono hext⟩
    rw [List.getElem?_take] at hy
    split at hy
    · simpa using hy
    · cases hy
  · exact FrOk.new _ _

/-- an operand's value -/
theorem ev_cases {x : AOpd} {f : Value → H Value} {g : Option Value → H Value} (hg : ∀ a, g (some a) = f a) (hn : g none = H.fail) (h : g (ev G env x) σ = some (v, σ')) : ∃ a, ev G env x = some a ∧ f a σ = some (v, σ') := by
  cases hx : ev G env x with
  | none => rw [hx, hn] at h; exact (H.fail_some h).elim
  | some a => rw [hx, hg] at h; exact ⟨a, rfl, h⟩

variable (hρ : OpdRel D G env μ ρ) (ok : Ok μ w σ)
include hρ ok

theorem snd_mv {x : Operand} (hop : o.op = .move x ∨ o.op = .assign x) (hx : D x = true) (h : aop G L env (.mv (opd x)) σ = some (v, σ')) : OpOut P ρ o μ w σ v σ' := by
  obtain ⟨h1, rfl⟩ := H.opt_some h
  refine .pure ok (n := .value (ρ x)) ?_ rfl (hρ x hx v h1)
  rcases hop with e | e <;> simp [execOp, e]

theorem snd_pick {c a b : Operand} (hop : o.op = .pick c a b) (hc : D c = true) (ha : D a = true) (hb : D b = true) (h : aop G L env (.pick (opd c) (opd a) (opd b)) σ = some (v, σ')) : OpOut P ρ o μ w σ v σ' := by
  simp only [aop] at h
  cases hv : ev G env (opd c) with
  | none => rw [hv] at h; exact (H.fail_some h).elim
  | some cv =>
    rw [hv] at h
    cases cv with
    | bool t =>
      have e := (hρ c hc _ hv).of_bool
      obtain ⟨h1, rfl⟩ := H.opt_some h
      cases t with
      | true => exact .pure ok (n := .value (ρ a)) (by simp [execOp, hop, e, asBool]) rfl (hρ a ha v h1)
      | false => exact .pure ok (n := .value (ρ b)) (by simp [execOp, hop, e, asBool]) rfl (hρ b hb v h1)
    | _ => exact (H.fail_some h).elim

section types
variable {ti : TypeId → Option TypeInfo} (hti : ∀ t i, ti t = some i → P.info? t = some i)
include hti
omit hρ in
theorem snd_alloc {e : TypeId} {z : List Value} (hop : o.op = .alloc e) (hz : zeroCells? ti e = some z) (h : aop G L env (.alloc e z) σ = some (v, σ')) : OpOut P ρ o μ w σ v σ' := by
  obtain ⟨b, σ1, h1, h2⟩ := H.bind_some h
  obtain ⟨rfl, rfl⟩ := newBlk_some h1
  obtain ⟨rfl, rfl⟩ := H.pure_some h2
  obtain ⟨zv, hz1, hz2, hz3⟩ := zeroCells_spec hz
  have hcs : zv.cells = z.toArray := by rw [← hz2]
  refine OpOut.new ok (cs := z) (mk := fun b => .pointer (some ⟨b, 0, none⟩)) (lim := z.length) (w1 := { w with heap := w.heap.push (.cells z.toArray e) }) (v' := .pointer (some ⟨w.heap.size, 0, none⟩)) rfl ?_ (by rw [List.take_length]; exact RelL.closed hz3) (Nat.le_refl _) (Nat.le_refl _) (fun _ => rfl) (.ptr (Mp.up_same ..))
  simp [execOp, hop, Instr.alloc, run_zero hti hz1, newVar, newRow, newObj, Sem.run, hcs]
end types

theorem snd_box {e : TypeId} {x : Operand} (hop : o.op = .box e x) (hx : D x = true) (h : aop G L env (.box e (opd x)) σ = some (v, σ')) : OpOut P ρ o μ w σ v σ' := by
  obtain ⟨a, σ0, k0, h'⟩ := H.bind_some h
  obtain ⟨h0, rfl⟩ := H.opt_some k0
  obtain ⟨b, σ1, h1, h2⟩ := H.bind_some h'
  obtain ⟨rfl, rfl⟩ := newBlk_some h1
  obtain ⟨rfl, rfl⟩ := H.pure_some h2
  have hr := (hρ x hx a h0).cells
  have hl := hr.length
  refine OpOut.new ok (cs := (ρ x).cells.toList) (mk := fun b => .pointer (some ⟨b, 0, none⟩)) (lim := (vcells a).length) (w1 := { w with heap := w.heap.push (.cells (ρ x).cells e) }) (v' := .pointer (some ⟨w.heap.size, 0, none⟩)) (by simp) ?_ (by rw [hl, List.take_length]; exact hr) (Nat.le_refl _) (by omega) (fun _ => hl.symm) (.ptr (Mp.up_same ..))
  simp [execOp, hop, Instr.box, newVar, newRow, newObj, Sem.run]

theorem snd_nilchk {x : Operand} (hop : o.op = .nilCheck x) (hx : D x = true) (h : aop G L env (.nilchk (opd x)) σ = some (v, σ')) : OpOut P ρ o μ w σ v σ' := by
  simp only [aop] at h
  cases hv : ev G env (opd x) with
  | none => rw [hv] at h; exact (H.fail_some h).elim
  | some xv =>
    rw [hv] at h
    have hr := hρ x hx _ hv
    cases xv with
    | pointer a =>
      cases a with
      | none => exact (H.fail_some h).elim
      | some a =>
        obtain ⟨rfl, rfl⟩ := H.pure_some h
        have hr' := hr
        generalize hq : ρ x = q at hr
        cases hr with
        | ptr e1 => exact .pure ok (n := .value (ρ x)) (by simp [execOp, hop, hq]) rfl hr'
    | func fn f c =>
      cases fn with
      | func fid =>
        obtain ⟨rfl, rfl⟩ := H.pure_some h
        have hr' := hr
        generalize hq : ρ x = q at hr
        cases hr with
        | func e1 e2 => exact .pure ok (n := .value (ρ x)) (by simp [execOp, hop, hq]) rfl hr'
      | _ => exact (H.fail_some h).elim
    | _ => exact (H.fail_some h).elim

omit hρ ok in
theorem pureSem_run {α : Type} {s : Sem α} {a : α} (h : pureSem s = some a) (w : World) : s.run P w = .ok a w := by
  cases s <;> simp [pureSem] at h
  subst h; rfl

theorem snd_faddr {ti : TypeId → Option TypeInfo} (hti : ∀ t i, ti t = some i → P.info? t = some i) {t : TypeId} {x : Operand} {f : Nat} {fs : Array Field} {fd : Field} {n : Nat} (hop : o.op = .fieldAddr t x f) (hx : D x = true)
    (hu : und ti t = some (.struct fs)) (hf : fs[f]? = some fd) (hn : cellsOf? ti fd.type = some (n + 1))
    (h : aop G L env (.faddr fd.offset (opd x)) σ = some (v, σ')) : OpOut P ρ o μ w σ v σ' := by
  simp only [aop] at h
  cases hv : ev G env (opd x) with
  | none => rw [hv] at h; exact (H.fail_some h).elim
  | some xv =>
    rw [hv] at h
    have hr := hρ x hx _ hv
    generalize hq : ρ x = q at hr
    cases hr with
    | ptr e1 =>
      rename_i b oo B lim
      obtain ⟨rfl, rfl⟩ := H.pure_some h
      refine .pure ok (n := .value (.pointer (some ⟨B, oo + fd.offset, none⟩))) ?_ rfl (.ptr e1)
      simp [execOp, hop, hq, Instr.fieldAt, run_und hti hu, hf, Instr.sureAddr, fieldPlace, run_size hti hn, addr_add]
    | _ => exact (H.fail_some h).elim

theorem snd_iaddrS {ti : TypeId → Option TypeInfo} (hti : ∀ t i, ti t = some i → P.info? t = some i) {t e : TypeId} {x i : Operand} {s : Nat} (hop : o.op = .indexAddr t x i) (hx : D x = true) (hi : D i = true)
    (hu : und ti t = some (.slice e)) (hn : cellsOf? ti e = some s)
    (h : aop G L env (.iaddrS s (opd x) (opd i)) σ = some (v, σ')) : OpOut P ρ o μ w σ v σ' := by
  simp only [aop] at h
  cases hv : ev G env (opd x) with
  | none => rw [hv] at h; exact (H.fail_some h).elim
  | some xv =>
    have hr := hρ x hx _ hv
    generalize hq : ρ x = q at hr
    cases hvi : ev G env (opd i) with
    | none => rw [hv, hvi] at h; cases hr <;> exact (H.fail_some h).elim
    | some iv =>
      rw [hv, hvi] at h
      have hri := hρ i hi _ hvi
      generalize hqi : ρ i = qi at hri
      cases hr with
      | slice e1 e2 e3 e4 e5 e6 =>
        rename_i b oo B lim tag len cap cap'
        cases hri with
        | int k n =>
          simp only at h
          split at h
          · rename_i hb
            cases ht : Nat.beq (tag / 2) s with
            | false => rw [ht] at h; exact (H.fail_some (σ := σ) h).elim
            | true =>
              rw [ht] at h
              obtain ⟨rfl, rfl⟩ := H.pure_some h
              refine .pure ok (n := .value (.pointer (some ⟨B, oo + n.toNat * s, none⟩))) ?_ rfl (.ptr e1)
              simp [execOp, hop, hq, hqi, Instr.indexAt, asIntOf, run_und hti hu, hb, run_size hti hn, addr_add]
          · exact (H.fail_some h).elim
        | _ => exact (H.fail_some h).elim
      | lost =>
        cases hri with
        | int k n =>
          simp only at h
          split at h
          · rename_i hb; simp at hb; omega
          · exact (H.fail_some h).elim
        | _ => exact (H.fail_some h).elim
      | _ => exact (H.fail_some h).elim

theorem snd_iaddrA {ti : TypeId → Option TypeInfo} (hti : ∀ t i, ti t = some i → P.info? t = some i) {t e : TypeId} {x i : Operand} {s len : Nat} (hop : o.op = .indexAddr t x i) (hx : D x = true) (hi : D i = true)
    (hu : und ti t = some (.array len e)) (hn : cellsOf? ti e = some s)
    (h : aop G L env (.iaddrA len s (opd x) (opd i)) σ = some (v, σ')) : OpOut P ρ o μ w σ v σ' := by
  simp only [aop] at h
  cases hv : ev G env (opd x) with
  | none => rw [hv] at h; exact (H.fail_some h).elim
  | some xv =>
    have hr := hρ x hx _ hv
    generalize hq : ρ x = q at hr
    cases hvi : ev G env (opd i) with
    | none => rw [hv, hvi] at h; cases hr <;> exact (H.fail_some h).elim
    | some iv =>
      rw [hv, hvi] at h
      have hri := hρ i hi _ hvi
      generalize hqi : ρ i = qi at hri
      cases hr with
      | ptr e1 =>
        rename_i b oo B lim
        cases hri with
        | int k n =>
          simp only at h
          split at h
          · rename_i hb
            obtain ⟨rfl, rfl⟩ := H.pure_some h
            refine .pure ok (n := .value (.pointer (some ⟨B, oo + n.toNat * s, none⟩))) ?_ rfl (.ptr e1)
            simp [execOp, hop, hq, hqi, Instr.indexAt, Instr.sureAddr, asIntOf, run_und hti hu, hb, run_size hti hn, addr_add]
          · exact (H.fail_some h).elim
        | _ => exact (H.fail_some h).elim
      | _ => exact (H.fail_some h).elim

theorem snd_ext {x : Operand} {i : Nat} (hop : o.op = .extract x i) (hx : D x = true) (h : aop G L env (.ext (opd x) i) σ = some (v, σ')) : OpOut P ρ o μ w σ v σ' := by
  simp only [aop] at h
  cases hv : ev G env (opd x) with
  | none => rw [hv] at h; exact (H.fail_some h).elim
  | some xv =>
    rw [hv] at h
    have hr := hρ x hx _ hv
    generalize hq : ρ x = q at hr
    cases hr with
    | tuple e1 =>
      obtain ⟨h1, rfl⟩ := H.opt_some h
      obtain ⟨y, hy, hxy⟩ := e1.get h1
      exact .pure ok (n := .value y) (by simp [execOp, hop, hq, Instr.extract, hy]) rfl hxy
    | _ => exact (H.fail_some h).elim

omit hρ ok in
theorem scalOf_some {x : Option Value} {v : Value} (h : scalOf x = some v) : x = some v ∧ scal v = true := by
  cases x with
  | none => simp [scalOf] at h
  | some u => cases hs : scal u with
    | false => simp [scalOf, hs] at h
    | true => simp [scalOf, hs] at h; subst h; exact ⟨rfl, hs⟩
omit hρ ok in
theorem Rel.scal {v : Value} (h : scal v = true) : Rel μ v v := by
  cases v <;> simp [Go.Am.scal] at h <;> first | exact .bool _ | exact .int _ _ | exact .string _
omit hρ ok in
/-- the cells behind a pointer -/
theorem readCells_some {b oo n : Nat} {r : List Value} (h : readCells ⟨b, oo, none⟩ n σ = some (r, σ')) : ∃ c ro ty fl, σ.heap.get b = some (.cells c ro ty fl) ∧ take? c oo n = some r ∧ σ' = σ := by
  obtain ⟨x, σ1, k1, k2⟩ := H.bind_some h
  obtain ⟨h1, rfl⟩ := getCells_some k1
  obtain ⟨h2, rfl⟩ := H.opt_some k2
  exact ⟨_, _, _, _, h1, h2, rfl⟩

theorem snd_load {ti : TypeId → Option TypeInfo} (hti : ∀ t i, ti t = some i → P.info? t = some i) {t : TypeId} {x : Operand} {n : Option Nat} (hop : o.op = .load t x) (hx : D x = true)
    (hn : (aggOf ti t = some true ∧ ∃ k, cellsOf? ti t = some k ∧ n = some k) ∨ (aggOf ti t = some false ∧ n = none))
    (h : aop G L env (.load n (opd x)) σ = some (v, σ')) : OpOut P ρ o μ w σ v σ' := by
  simp only [aop] at h
  cases hv : ev G env (opd x) with
  | none => rw [hv] at h; exact (H.fail_some h).elim
  | some xv =>
    rw [hv] at h
    have hr := hρ x hx _ hv
    generalize hq : ρ x = q at hr
    cases hr with
    | ptr e1 =>
      rename_i b oo B lim
      rcases hn with ⟨ha, k, hk, rfl⟩ | ⟨ha, rfl⟩
      · obtain ⟨r, σ1, h1, h2⟩ := H.bind_some h
        obtain ⟨c, ro, ty, fl, hb, ht, rfl⟩ := readCells_some h1
        obtain ⟨rfl, rfl⟩ := H.pure_some h2
        obtain ⟨r', g1, g2⟩ := run_reads (P := P) ok.sim hb e1 ht
        refine .pure ok (n := .value (.agg r'.toArray)) ?_ rfl (.agg g2)
        simp [execOp, hop, hq, Instr.loadAt, Instr.sureAddr, loadVar, run_agg hti ha, run_size hti hk, g1]
      · obtain ⟨x1, σ1, k1, k2⟩ := H.bind_some h
        obtain ⟨hb, rfl⟩ := getCells_some k1
        obtain ⟨h2, rfl⟩ := H.opt_some k2
        obtain ⟨cs, fr, g1, g2, g3, g4, g5, g6⟩ := ok.sim.cells hb e1
        obtain ⟨v', e2, e3⟩ := g5 _ _ h2
        refine .pure ok (n := .value v') ?_ rfl e3
        have hc : w.cell? ⟨B, oo, none⟩ = some v' := by simp [World.cell?, g1, e2]
        simp [execOp, hop, hq, Instr.loadAt, Instr.sureAddr, loadVar, run_agg hti ha, load, Sem.run, hc]
    | _ => exact (H.fail_some h).elim

theorem snd_store {ti : TypeId → Option TypeInfo} (hti : ∀ t i, ti t = some i → P.info? t = some i) {t : TypeId} {a x : Operand} {n : Nat} (hop : o.op = .store t a x) (ha : D a = true) (hx : D x = true)
    (hn : cellsOf? ti t = some n)
    (h : aop G L env (.store n (opd a) (opd x)) σ = some (v, σ')) : OpOut P ρ o μ w σ v σ' := by
  simp only [aop] at h
  cases hv : ev G env (opd a) with
  | none => rw [hv] at h; exact (H.fail_some h).elim
  | some av =>
    have hr := hρ a ha _ hv
    generalize hq : ρ a = q at hr
    cases hvx : ev G env (opd x) with
    | none => rw [hv, hvx] at h; cases hr <;> exact (H.fail_some h).elim
    | some xv =>
      rw [hv, hvx] at h
      have hrx := hρ x hx _ hvx
      cases hr with
      | ptr e1 =>
        rename_i b oo B lim
        simp only at h
        cases hl : Nat.beq (vcells xv).length n with
        | false => rw [hl] at h; exact (H.fail_some (σ := σ) h).elim
        | true =>
          rw [hl] at h
          obtain ⟨u, σ1, h1, h2⟩ := H.bind_some h
          obtain ⟨rfl, rfl⟩ := H.pure_some h2
          obtain ⟨w', g1, g2, g3⟩ := run_writes (P := P) ok h1 e1 hrx.cells
          have hlen : (ρ x).cells.size = n := by have := hrx.cells.length; have := of_beqT hl; simp at *; omega
          refine ⟨.skip, w', μ, _, undef, ?_, g2, rfl, .tuple .nil, g3⟩
          simp [execOp, hop, hq, Instr.storeAt, Instr.sureAddr, storeVar, run_size hti hn, hlen, g1]
      | _ => exact (H.fail_some h).elim

theorem snd_bin {op : BinOp} {t t' : TypeId} {x y : Operand} (hop : o.op = .binOp op t x y t') (hx : D x = true) (hy : D y = true)
    (h : aop G L env (.bin op (opd x) (opd y)) σ = some (v, σ')) : OpOut P ρ o μ w σ v σ' := by
  simp only [aop] at h
  cases hv : ev G env (opd x) with
  | none => rw [hv] at h; exact (H.fail_some h).elim
  | some xv =>
    cases hvy : ev G env (opd y) with
    | none => rw [hv, hvy] at h; exact (H.fail_some h).elim
    | some yv =>
      rw [hv, hvy] at h
      simp only at h
      cases hs : binPair xv yv with
      | false => rw [hs] at h; exact (H.fail_some (σ := σ) h).elim
      | true =>
        rw [hs] at h
        obtain ⟨h0, rfl⟩ := H.opt_some h
        obtain ⟨h1, hsv⟩ := scalOf_some h0
        have hrx := hρ x hx _ hv
        have hry := hρ y hy _ hvy
        generalize hq : ρ x = q at hrx
        generalize hq' : ρ y = q' at hry
        refine .pure ok (n := .value v) ?_ rfl (.scal hsv)
        cases xv <;> cases yv <;> simp [binPair] at hs
        · cases hrx; cases hry
          have hg : ∀ k a k' b, eqGuard op t x y (.int k a) (.int k' b) = Pure.pure () := by intro k a k' b; cases op <;> rfl
          have hrun := pureSem_run (P := P) h1 w
          have hb : ∀ k a k' b, binOp op t (.int k a) (.int k' b) = binOp op 0 (.int k a) (.int k' b) := by intro k a k' b; cases op <;> rfl
          simp [execOp, hop, hq, hq', hg, hb, hrun]
        · cases hrx; cases hry
          have hg : ∀ a b, eqGuard op t x y (.string a) (.string b) = Pure.pure () := by intro a b; cases op <;> rfl
          have hrun := pureSem_run (P := P) h1 w
          have hb : ∀ a b, binOp op t (.string a) (.string b) = binOp op 0 (.string a) (.string b) := by intro a b; cases op <;> rfl
          simp [execOp, hop, hq, hq', hg, hb, hrun]

theorem snd_un {op : UnOp} {t : TypeId} {x : Operand} (hop : o.op = .unOp op t x) (hx : D x = true)
    (h : aop G L env (.un op (opd x)) σ = some (v, σ')) : OpOut P ρ o μ w σ v σ' := by
  simp only [aop] at h
  cases hv : ev G env (opd x) with
  | none => rw [hv] at h; exact (H.fail_some h).elim
  | some xv =>
    rw [hv] at h
    simp only at h
    cases hs : scal xv with
    | false => rw [hs] at h; exact (H.fail_some (σ := σ) h).elim
    | true =>
      rw [hs] at h
      obtain ⟨h0, rfl⟩ := H.opt_some h
      obtain ⟨h1, hsv⟩ := scalOf_some h0
      have ex := (hρ x hx _ hv).of_scal hs
      exact .pure ok (n := .value v) (by simp [execOp, hop, ex, pureSem_run (P := P) h1 w]) rfl (.scal hsv)

theorem snd_fld {ti : TypeId → Option TypeInfo} (hti : ∀ t i, ti t = some i → P.info? t = some i) {t : TypeId} {x : Operand} {f n : Nat} {a : Bool} {fs : Array Field} {fd : Field} (hop : o.op = .field t x f) (hx : D x = true)
    (hu : und ti t = some (.struct fs)) (hf : fs[f]? = some fd) (hn : cellsOf? ti fd.type = some n) (ha : aggOf ti fd.type = some a)
    (h : aop G L env (.fld fd.offset n a (opd x)) σ = some (v, σ')) : OpOut P ρ o μ w σ v σ' := by
  simp only [aop] at h
  cases hv : ev G env (opd x) with
  | none => rw [hv] at h; exact (H.fail_some h).elim
  | some xv =>
    rw [hv] at h
    have hr := hρ x hx _ hv
    generalize hq : ρ x = q at hr
    cases hr with
    | agg e1 =>
      rename_i xs ys
      obtain ⟨h1, rfl⟩ := H.opt_some h
      cases a with
      | true =>
        simp [partOf] at h1; subst h1
        refine .pure ok (n := .value (.agg ⟨(ys.drop fd.offset).take n⟩)) ?_ rfl (.agg ((e1.drop _).take _))
        simp [execOp, hop, hq, Instr.field, run_und hti hu, hf, asAgg, part, run_agg hti ha, run_size hti hn, List.extract_toArray]
      | false =>
        simp [partOf] at h1
        obtain ⟨y, hy, hxy⟩ := e1.get h1
        refine .pure ok (n := .value y) ?_ rfl hxy
        simp [execOp, hop, hq, Instr.field, run_und hti hu, hf, asAgg, part, run_agg hti ha, hy]
    | _ => exact (H.fail_some h).elim

theorem snd_idxS {ti : TypeId → Option TypeInfo} (hti : ∀ t i, ti t = some i → P.info? t = some i) {t : TypeId} {x i : Operand} (hop : o.op = .index t x i) (hx : D x = true) (hi : D i = true)
    (hu : und ti t = some .string)
    (h : aop G L env (.idxS (opd x) (opd i)) σ = some (v, σ')) : OpOut P ρ o μ w σ v σ' := by
  simp only [aop] at h
  cases hv : ev G env (opd x) with
  | none => rw [hv] at h; exact (H.fail_some h).elim
  | some xv =>
    have hr := hρ x hx _ hv
    generalize hq : ρ x = q at hr
    cases hvi : ev G env (opd i) with
    | none => rw [hv, hvi] at h; cases hr <;> exact (H.fail_some h).elim
    | some iv =>
      rw [hv, hvi] at h
      have hri := hρ i hi _ hvi
      generalize hqi : ρ i = qi at hri
      cases hr with
      | string s =>
        cases hri with
        | int k n =>
          simp only at h
          split at h
          · rename_i hb
            cases hc : s.data.toList[n.toNat]? with
            | none => rw [hc] at h; exact (H.fail_some (σ := σ) h).elim
            | some b =>
              rw [hc] at h
              obtain ⟨rfl, rfl⟩ := H.pure_some h
              refine .pure ok (n := .value (.int .u8 b.toNat)) ?_ rfl (.int _ _)
              have hc' : s[n.toNat]? = some b := by
                have hlt : n.toNat < s.size := by
                  have := List.getElem?_eq_some_iff.1 hc; obtain ⟨h1, _⟩ := this; simpa using h1
                rw [getElem?_pos s n.toNat hlt]
                have := List.getElem?_eq_some_iff.1 hc; obtain ⟨h1, h2⟩ := this
                rw [← h2]; rfl
              simp [execOp, hop, hq, hqi, Instr.index, asIntOf, run_und hti hu, hb, hc']
          · exact (H.fail_some h).elim
        | _ => exact (H.fail_some h).elim
      | _ => exact (H.fail_some h).elim

theorem snd_len {ti : TypeId → Option TypeInfo} (hti : ∀ t i, ti t = some i → P.info? t = some i) {t : TypeId} {x : Operand} {c : Call} {k : LenK} (hop : o.op = .call c) (hc : c.callee = .builtin .len) (hargs : c.args = #[x]) (ht : c.argTypes = #[t]) (hx : D x = true)
    (hu : (und ti t = some .string ∧ k = .str) ∨ (∃ e, und ti t = some (.slice e) ∧ k = .slice) ∨ (∃ a b, und ti t = some (.map a b) ∧ k = .map))
    (h : aop G L env (.len k (opd x)) σ = some (v, σ')) : OpOut P ρ o μ w σ v σ' := by
  have hexec : execOp ρ o = (Builtin.len_ #[t] o.type #[ρ x] >>= fun v => Pure.pure (Next.value v)) := by
    simp [execOp, hop, resolve, hc, hargs, ht, invoke, builtin]
  simp only [aop] at h
  cases hv : ev G env (opd x) with
  | none => rw [hv] at h; cases k <;> exact (H.fail_some h).elim
  | some xv =>
    rw [hv] at h
    have hr := hρ x hx _ hv
    generalize hq : ρ x = q at hr
    rcases hu with ⟨hu, rfl⟩ | ⟨e, hu, rfl⟩ | ⟨a, b, hu, rfl⟩
    · cases hr with
      | string s =>
        obtain ⟨rfl, rfl⟩ := H.pure_some h
        exact .pure ok (n := .value (.int .i64 s.size)) (by rw [hexec]; simp [Builtin.len_, run_und hti hu, hq, goInt]) rfl (.int _ _)
      | _ => exact (H.fail_some h).elim
    · cases hr with
      | slice0 =>
        obtain ⟨rfl, rfl⟩ := H.pure_some h
        exact .pure ok (n := .value (.int .i64 (0 : Nat))) (by rw [hexec]; simp [Builtin.len_, run_und hti hu, hq, goInt]) rfl (.int _ _)
      | lost =>
        obtain ⟨rfl, rfl⟩ := H.pure_some h
        exact .pure ok (n := .value (.int .i64 (0 : Nat))) (by rw [hexec]; simp [Builtin.len_, run_und hti hu, hq, goInt]) rfl (.int _ _)
      | slice =>
        rename_i len cap cap' _ _ _ _ _ _
        obtain ⟨rfl, rfl⟩ := H.pure_some h
        refine .pure ok (n := .value (.int .i64 _)) (by rw [hexec]; simp [Builtin.len_, run_und hti hu, hq, goInt]) rfl (.int _ _)
      | _ => exact (H.fail_some h).elim
    · cases hr with
      | map0 =>
        obtain ⟨rfl, rfl⟩ := H.pure_some h
        exact .pure ok (n := .value (.int .i64 0)) (by rw [hexec]; simp [Builtin.len_, run_und hti hu, hq, goInt]) rfl (.int _ _)
      | map e1 =>
        rename_i b B lim
        obtain ⟨r, σ1, k1, k2⟩ := H.bind_some h
        unfold getMap at k1
        split at k1
        · rename_i es clock hb
          simp at k1
          obtain ⟨rfl, rfl⟩ := k1
          obtain ⟨rfl, rfl⟩ := H.pure_some k2
          obtain ⟨B', l', g1, es', g2, g3, g4⟩ := ok.sim.live _ _ hb
          rw [e1] at g1; cases g1
          refine .pure ok (n := .value (.int .i64 es'.size)) ?_ rfl (by rw [← g3]; exact .int _ _)
          rw [hexec]; simp [Builtin.len_, run_und hti hu, hq, goInt, getObj, Sem.run, g2]
        · simp at k1
      | _ => exact (H.fail_some h).elim

end
end Go.Am

namespace Go.Am
section
variable {P : Program} {ρ : Operand → Value} {o : Oper} {μ : Mp} {w : World} {σ σ' : St} {v : Value} {G : GT} {L : TypeId → Nat → Nat → TypeId → Bool} {env : Env} {D : Operand → Bool}
variable {ti : TypeId → Option TypeInfo} (hti : ∀ t i, ti t = some i → P.info? t = some i)

/-! #### equality -/
include hti
theorem run_part {t : TypeId} {n : Nat} {a : Bool} (hn : cellsOf? ti t = some n) (ha : aggOf ti t = some a) {xs ys : List Value} (hr : RelL μ xs ys) {off : Nat} {x : Value} (h : partOf xs off n a = some x) (w : World) :
    ∃ y, (part t ⟨ys⟩ off).run P w = .ok y w ∧ Rel μ x y := by
  cases a with
  | true =>
    simp [partOf] at h; subst h
    refine ⟨.agg ⟨(ys.drop off).take n⟩, ?_, .agg ((hr.drop _).take _)⟩
    simp [part, run_agg hti ha, run_size hti hn, List.extract_toArray]
  | false =>
    simp [partOf] at h
    obtain ⟨y, hy, hxy⟩ := hr.get h
    exact ⟨y, by simp [part, run_agg hti ha, hy], hxy⟩

omit hti in
theorem eqField_or (sh : TypeId → EqS) (f : Field) (acc : EqS) : eqField ti sh f acc = .bad ∨ ∃ a b c d, eqField ti sh f acc = .cons a b c d acc := by
  unfold eqField
  split
  · cases hb : (f.name == "_") <;> simp
  · simp
omit hti in
theorem eqv_struct_no (l : List Field) (sh : TypeId → EqS) {x y : Value} {b : Bool} (hn : (∀ l, x ≠ .agg l) ∨ (∀ l, y ≠ .agg l))
    (h : eqv (l.foldr (eqField ti sh) .nil) x y = some b) : False := by
  cases l with
  | nil =>
    rcases hn with hn | hn
    · cases x <;> simp_all [eqv]
    · cases x <;> cases y <;> simp_all [eqv]
  | cons f l =>
    rw [List.foldr_cons] at h
    rcases eqField_or sh f (l.foldr (eqField ti sh) .nil) with e | ⟨a, b', c, d, e⟩
    · rw [e] at h; simp [eqv] at h
    · rw [e] at h
      rcases hn with hn | hn
      · cases x <;> simp_all [eqv]
      · cases x <;> cases y <;> simp_all [eqv]

/-- the shape's answer is the model's -/
theorem run_eqv {sk : TypeId → Bool} (hst : ∀ t, sk t = true → P.stoodInHeld t = false) : ∀ (n : Nat) (t : TypeId) (d : Nat) {x y x' y' : Value} {b : Bool}, n ≤ d → eqv (eqShape ti sk n t) x y = some b → Rel μ x x' → Rel μ y y' →
    ∀ w, (Op.equalIn d t x' y').run P w = .ok b w := by
  intro n
  induction n with
  | zero => intro t d x y x' y' b _ h; simp [eqShape, eqv] at h
  | succ n ih =>
    intro t d x y x' y' b hd h hx hy w
    obtain ⟨d, rfl⟩ : ∃ m, d = m + 1 := ⟨d - 1, by omega⟩
    simp only [eqShape] at h
    cases hu : und ti t with
    | none => rw [hu] at h; simp [eqv] at h
    | some de =>
      rw [hu] at h
      have ru := run_und hti hu w
      cases de with
      | bool => cases hx <;> simp [eqv] at h <;> cases hy <;> simp [eqv] at h <;> subst h <;> simp [Op.equalIn, ru]
      | int k => cases hx <;> simp [eqv] at h <;> cases hy <;> simp [eqv] at h <;> obtain ⟨h1, h2⟩ := h <;> subst h1 <;> subst h2 <;> simp [Op.equalIn, ru]
      | string => cases hx <;> simp [eqv] at h <;> cases hy <;> simp [eqv] at h <;> subst h <;> simp [Op.equalIn, ru]
      | pointer e =>
        simp only at h
        split at h
        · rename_i m hm
          have hs := run_size hti hm
          cases hx with
          | ptr0 =>
            cases hy <;> simp [eqv] at h <;> subst h <;> simp [Op.equalIn, ru]
          | ptr e1 =>
            cases hy with
            | ptr0 => simp [eqv] at h; subst h; simp [Op.equalIn, ru]
            | ptr e2 =>
              simp only [eqv] at h
              rename_i b1 o1 B1 l1 b2 o2 B2 l2
              cases hb : Nat.beq b1 b2 with
              | false => rw [hb] at h; simp at h
              | true =>
                rw [hb] at h
                simp only [cond_true, Option.some.injEq] at h
                have := of_beqT hb; subst this
                rw [e1] at e2; cases e2
                subst h
                simp only [Op.equalIn, Sem.run_bind, ru, Result.andThen, hs]
                rw [if_pos (by omega)]
                simp [sameAddr]
                by_cases e : o1 = o2
                · simp [e, beqT]
                · rw [beqF e]; simpa using e
            | _ => simp [eqv] at h
          | _ => simp [eqv] at h
        · simp [eqv] at h
      | slice e =>
        cases hx <;> cases hy <;> simp [eqv] at h <;> subst h <;> simp [Op.equalIn, ru]
      | func a c e =>
        cases hx <;> cases hy <;> simp [eqv] at h <;> subst h <;> simp [Op.equalIn, ru]
      | struct fs =>
        simp only at h
        cases hsk : sk t with
        | false => rw [hsk] at h; simp [eqv] at h
        | true =>
        rw [hsk] at h
        simp only [cond_true] at h
        have hst := hst t hsk
        have key : ∀ (l : List Field) {xs ys xs' ys' : List Value} {b : Bool}, RelL μ xs xs' → RelL μ ys ys' →
            eqv (l.foldr (eqField ti (eqShape ti sk n)) .nil) (.agg ⟨xs⟩) (.agg ⟨ys⟩) = some b →
            (forIn l ((none, ()) : Option Bool × Unit) fun f __s =>
              if f.name ≠ "_" then do
                let __do_lift ← part f.type ⟨xs'⟩ f.offset
                let __do_lift_1 ← part f.type ⟨ys'⟩ f.offset
                let __do_lift ← Op.equalIn d f.type __do_lift __do_lift_1
                if (!__do_lift) = true then pure (ForInStep.done (some false, ()))
                  else pure (ForInStep.yield (none, ()))
              else pure (ForInStep.yield (none, ())) : Sem (Option Bool × Unit)).run P w = .ok (bif b then (none, ()) else (some false, ())) w := by
          intro l
          induction l with
          | nil => intro xs ys xs' ys' b h1 h2 h; simp [eqv] at h; subst h; simp
          | cons f l ihl =>
            intro xs ys xs' ys' b h1 h2 h
            simp only [List.foldr_cons, eqField] at h
            cases hs : cellsOf? ti f.type with
            | none => rw [hs] at h; simp [eqv] at h
            | some s =>
              cases ha : aggOf ti f.type with
              | none => rw [hs, ha] at h; simp [eqv] at h
              | some a =>
                rw [hs, ha] at h
                simp only at h
                by_cases hname : f.name = "_"
                · simp [hname, eqv] at h
                · have hn2 : (f.name == "_") = false := by simpa using hname
                  rw [hn2] at h
                  simp only [cond_false, eqv] at h
                  cases hp1 : partOf xs f.offset s a with
                  | none => rw [hp1] at h; simp at h
                  | some x1 =>
                    cases hp2 : partOf ys f.offset s a with
                    | none => rw [hp1, hp2] at h; simp at h
                    | some y1 =>
                      rw [hp1, hp2] at h
                      simp only at h
                      obtain ⟨x2, e1, e2⟩ := run_part hti hs ha h1 hp1 w
                      obtain ⟨y2, e3, e4⟩ := run_part hti hs ha h2 hp2 w
                      cases hq : eqv (eqShape ti sk n f.type) x1 y1 with
                      | none => rw [hq] at h; simp at h
                      | some q =>
                        rw [hq] at h
                        have e5 := ih f.type d (by omega) hq e2 e4 w
                        cases q with
                        | true =>
                          simp only at h
                          have e6 := ihl h1 h2 h
                          simp [List.forIn_cons, hname, e1, e3, e5]
                          simpa using e6
                        | false =>
                          simp only [Option.some.injEq] at h; subst h
                          simp [List.forIn_cons, hname, e1, e3, e5]
        cases hx with
        | agg h1 =>
          cases hy with
          | agg h2 =>
            have e := key fs.toList h1 h2 h
            simp only [Op.equalIn, Sem.run_bind, ru, Result.andThen, run_program, hst, if_false, Bool.false_eq_true]
            rw [← Array.forIn_toList, e]
            cases b <;> rfl
          | _ => exact (eqv_struct_no (ti := ti) _ _ (.inr (by intro l e; cases e)) h).elim
        | _ => exact (eqv_struct_no (ti := ti) _ _ (.inl (by intro l e; cases e)) h).elim
      | _ => simp [eqv] at h
end
end Go.Am

namespace Go.Am
section
variable {P : Program} {ρ : Operand → Value} {o : Oper} {μ : Mp} {w : World} {σ σ' : St} {v : Value} {G : GT} {L : TypeId → Nat → Nat → TypeId → Bool} {env : Env} {D : Operand → Bool}
variable {ti : TypeId → Option TypeInfo} {sk : TypeId → Bool}

structure TOk (P : Program) (ti : TypeId → Option TypeInfo) (sk : TypeId → Bool) : Prop where
  info : ∀ t i, ti t = some i → P.info? t = some i
  held : ∀ t, sk t = true → P.stoodInHeld t = false
  guard : ∀ t, sk t = true → P.eqGuardType P.depth t = false

variable (T : TOk P ti sk)
include T

theorem run_equal {t : TypeId} {x y x' y' : Value} {b : Bool} (h : eqv (eqShape ti sk 20 t) x y = some b) (hx : Rel μ x x') (hy : Rel μ y y') (w : World) : (Op.equal t x' y').run P w = .ok b w :=
  run_eqv T.info T.held 20 t 10000 (by omega) h hx hy w

omit T in
theorem eq_sk {t : TypeId} {xs : Array Value} {y : Value} {b : Bool} (h : eqv (eqShape ti sk 20 t) (.agg xs) y = some b) : sk t = true := by
  simp only [eqShape] at h
  cases hu : und ti t with
  | none => rw [hu] at h; simp [eqv] at h
  | some d =>
    rw [hu] at h
    cases d with
    | struct fs =>
      simp only at h
      cases hs : sk t with
      | true => rfl
      | false => rw [hs] at h; simp [eqv] at h
    | pointer e => simp only at h; split at h <;> simp [eqv] at h
    | _ => simp [eqv] at h

omit T in
theorem binOp_eql {t : TypeId} {x y : Value} (h : eqOk x = true) : binOp .eql t x y = (Op.equal t x y >>= fun b => Pure.pure (.bool b)) := by
  cases x <;> simp [eqOk] at h <;> cases y <;> rfl
omit T in
theorem binOp_neq {t : TypeId} {x y : Value} (h : eqOk x = true) : binOp .neq t x y = (Op.equal t x y >>= fun b => Pure.pure (.bool (!b))) := by
  cases x <;> simp [eqOk] at h <;> cases y <;> rfl
omit T in
theorem eqOk_rel {x y : Value} (h : eqOk x = true) (r : Rel μ x y) : eqOk y = true := by cases r <;> simp_all [eqOk]

variable (hρ : OpdRel D G env μ ρ) (ok : Ok μ w σ)
include hρ ok

theorem snd_eq {op : BinOp} {t t' : TypeId} {x y : Operand} {neg : Bool} (hop : o.op = .binOp op t x y t') (hop2 : (op = .eql ∧ neg = false) ∨ (op = .neq ∧ neg = true)) (hx : D x = true) (hy : D y = true)
    (hu : ∀ k, und ti t ≠ some (.int k)) (hu2 : und ti t ≠ some .string)
    (h : aop G L env (.eq neg (eqShape ti sk 20 t) (opd x) (opd y)) σ = some (v, σ')) : OpOut P ρ o μ w σ v σ' := by
  simp only [aop] at h
  cases hv : ev G env (opd x) with
  | none => rw [hv] at h; exact (H.fail_some h).elim
  | some xv =>
    cases hvy : ev G env (opd y) with
    | none => rw [hv, hvy] at h; exact (H.fail_some h).elim
    | some yv =>
      rw [hv, hvy] at h
      simp only at h
      cases hk : eqOk xv with
      | false => rw [hk] at h; exact (H.fail_some (σ := σ) h).elim
      | true =>
      rw [hk] at h
      simp only [cond_true] at h
      cases he : eqv (eqShape ti sk 20 t) xv yv with
      | none => rw [he] at h; exact (H.fail_some (σ := σ) h).elim
      | some b =>
        rw [he] at h
        obtain ⟨rfl, rfl⟩ := H.pure_some h
        have hrx := hρ x hx _ hv
        have hry := hρ y hy _ hvy
        generalize hq : ρ x = q at hrx
        generalize hq' : ρ y = q' at hry
        have hrun := run_equal T he hrx hry w
        have hkq := eqOk_rel hk hrx
        have hg : (eqGuard op t x y q q').run P w = .ok () w := by
          cases hrx with
          | agg e1 =>
            have := T.guard t (eq_sk he)
            rcases hop2 with ⟨rfl, _⟩ | ⟨rfl, _⟩ <;> cases hry <;> simp [eqGuard, this]
          | nilIface => simp [eqOk] at hk
          | _ => rcases hop2 with ⟨rfl, _⟩ | ⟨rfl, _⟩ <;> rfl
        refine .pure ok (n := .value (.bool (bif neg then !b else b))) ?_ rfl (.bool _)
        rcases hop2 with ⟨rfl, rfl⟩ | ⟨rfl, rfl⟩
        · simp [execOp, hop, hq, hq', hg, binOp_eql hkq, hrun]
        · simp [execOp, hop, hq, hq', hg, binOp_neq hkq, hrun]

end
end Go.Am

namespace Go.Am
section
variable {P : Program} {ρ : Operand → Value} {o : Oper} {μ : Mp} {w : World} {σ σ' : St} {v : Value} {G : GT} {L : TypeId → Nat → Nat → TypeId → Bool} {env : Env} {D : Operand → Bool}
variable {ti : TypeId → Option TypeInfo} {sk : TypeId → Bool} (T : TOk P ti sk)
include T

theorem run_checkKey (em : Bool) : ∀ (n : Nat) (t : TypeId) (d : Nat) {x x' : Value}, n ≤ d → eqv (eqShape ti sk n t) x x = some true → Rel μ x x' → ∀ w, (Instr.checkKey em d t x').run P w = .ok () w := by
  intro n
  induction n with
  | zero => intro t d x x' _ h; simp [eqShape, eqv] at h
  | succ n ih =>
    intro t d x x' hd h hx w
    obtain ⟨d, rfl⟩ : ∃ m, d = m + 1 := ⟨d - 1, by omega⟩
    simp only [eqShape] at h
    cases hu : und ti t with
    | none => rw [hu] at h; simp [eqv] at h
    | some de =>
      rw [hu] at h
      have ru := run_und T.info hu w
      cases de with
      | bool => cases hx <;> simp [eqv] at h <;> simp [Instr.checkKey, ru]
      | int k => cases hx <;> simp [eqv] at h <;> simp [Instr.checkKey, ru]
      | string => cases hx <;> simp [eqv] at h <;> simp [Instr.checkKey, ru]
      | pointer e => simp only at h; split at h <;> cases hx <;> simp [eqv] at h <;> simp [Instr.checkKey, ru]
      | slice e => cases hx <;> simp [eqv] at h <;> simp [Instr.checkKey, ru]
      | func a c e => cases hx <;> simp [eqv] at h <;> simp [Instr.checkKey, ru]
      | struct fs =>
        simp only at h
        cases hsk : sk t with
        | false => rw [hsk] at h; simp [eqv] at h
        | true =>
        rw [hsk] at h
        simp only [cond_true] at h
        have key : ∀ (l : List Field) {xs xs' : List Value}, RelL μ xs xs' → eqv (l.foldr (eqField ti (eqShape ti sk n)) .nil) (.agg ⟨xs⟩) (.agg ⟨xs⟩) = some true →
            (forIn l () fun f (_ : Unit) =>
              if f.name ≠ "_" then do
                let __do_lift ← part f.type ⟨xs'⟩ f.offset
                Instr.checkKey em d f.type __do_lift
                pure (ForInStep.yield ())
              else pure (ForInStep.yield ()) : Sem Unit).run P w = .ok () w := by
          intro l
          induction l with
          | nil => intro xs xs' _ _; simp
          | cons f l ihl =>
            intro xs xs' h1 h
            simp only [List.foldr_cons, eqField] at h
            cases hs : cellsOf? ti f.type with
            | none => rw [hs] at h; simp [eqv] at h
            | some s =>
              cases ha : aggOf ti f.type with
              | none => rw [hs, ha] at h; simp [eqv] at h
              | some a =>
                rw [hs, ha] at h
                simp only at h
                by_cases hname : f.name = "_"
                · simp [hname, eqv] at h
                · have hn2 : (f.name == "_") = false := by simpa using hname
                  rw [hn2] at h
                  simp only [cond_false, eqv] at h
                  cases hp1 : partOf xs f.offset s a with
                  | none => rw [hp1] at h; simp at h
                  | some x1 =>
                    rw [hp1] at h
                    simp only at h
                    obtain ⟨x2, e1, e2⟩ := run_part T.info hs ha h1 hp1 w
                    cases hq : eqv (eqShape ti sk n f.type) x1 x1 with
                    | none => rw [hq] at h; simp at h
                    | some q =>
                      rw [hq] at h
                      cases q with
                      | true =>
                        simp only at h
                        have e5 := ih f.type d (by omega) hq e2 w
                        have e6 := ihl h1 h
                        simp [List.forIn_cons, hname, e1, e5]
                        simpa using e6
                      | false => simp at h
        cases hx with
        | agg h1 =>
          have e := key fs.toList h1 h
          simp only [Instr.checkKey, Sem.run_bind, ru, Result.andThen]
          rw [← Array.forIn_toList, show Sem.run P (forIn fs.toList PUnit.unit _) w = Result.ok () w from e]
          rfl
        | _ => exact (eqv_struct_no (ti := ti) _ _ (.inl (by intro l e; cases e)) h).elim
      | _ => simp [eqv] at h

omit T in
theorem sameNow_eqv {t : TypeId} {d : TypeDesc} (hu : und ti t = some d) {k k' e e' : Value} {b b' : Bool} (h : eqv (eqShape ti sk 20 t) k e = some b) (hk : Rel μ k k') (he : Rel μ e e') (hs : Instr.sameNow d k' e' = some b') : b' = b := by
  simp only [eqShape, hu] at h
  cases d with
  | bool => cases hk <;> simp [eqv] at h <;> cases he <;> simp [eqv] at h <;> simp [Instr.sameNow] at hs <;> rw [← h, ← hs]
  | int kk => cases hk <;> simp [eqv] at h <;> cases he <;> simp [eqv] at h <;> obtain ⟨h1, h2⟩ := h <;> subst h1 <;> simp [Instr.sameNow] at hs <;> rw [← h2, ← hs]
  | string => cases hk <;> simp [eqv] at h <;> cases he <;> simp [eqv] at h <;> simp [Instr.sameNow] at hs <;> rw [← h, ← hs]
  | pointer e => cases hk <;> cases he <;> first | (simp [Instr.sameNow] at hs; done) | (split at h <;> simp [eqv] at h)
  | slice e => cases hk <;> simp [eqv] at h <;> cases he <;> simp [eqv] at h <;> simp [Instr.sameNow] at hs
  | func a c e => cases hk <;> simp [eqv] at h <;> cases he <;> simp [eqv] at h <;> simp [Instr.sameNow] at hs
  | struct fs =>
    cases hk <;> cases he <;> first | (simp [Instr.sameNow] at hs; done) | exact (eqv_struct_no (ti := ti) _ _ (.inl (by intro l e; cases e)) (by cases hsk : sk t <;> rw [hsk] at h <;> simp [eqv] at h; exact h)).elim | (cases hsk : sk t <;> rw [hsk] at h <;> simp only [cond_true, cond_false] at h; (simp [eqv] at h; done); exact (eqv_struct_no (ti := ti) _ _ (.inl (by intro l e; cases e)) h).elim)
  | _ => simp [eqv] at h

/-- what a map's entry is found to be -/
inductive FRel (μ : Mp) (es' : List MapEntry) (i0 : Nat) : Option (Nat × Value) → Option (Nat × Value) → Prop
  | none : FRel μ es' i0 none none
  | some {i : Nat} {v v' : Value} {e' : MapEntry} : i0 ≤ i → es'[i - i0]? = some e' → e'.val = v' → Rel μ v v' → FRel μ es' i0 (some (i, v)) (some (i, v'))

theorem run_findKey {t : TypeId} {d : TypeDesc} (hu : und ti t = some d) {k k' : Value} (hk : Rel μ k k') : ∀ (es es' : List MapEntry) (i : Nat) {r : Option (Nat × Value)}, es.length = es'.length → (∀ (j : Nat) e, es[j]? = some e → ∃ e', es'[j]? = some e' ∧ EntRel μ e e') →
    findE (eqShape ti sk 20 t) k es i = some r → ∃ r', FRel μ es' i r r' ∧ (∀ q, Instr.findNow d k' es' i = some q → q = r') ∧ ∀ w, (Instr.findAsking t k' es' i).run P w = .ok r' w := by
  intro es
  induction es with
  | nil =>
    intro es' i r hl _ h
    cases es' with
    | nil => simp [findE] at h; subst h; exact ⟨none, .none, by simp [Instr.findNow], fun w => by simp [Instr.findAsking]⟩
    | cons _ _ => simp at hl
  | cons e es ih =>
    intro es' i r hl hrel h
    cases es' with
    | nil => simp at hl
    | cons e' es' =>
      obtain ⟨e2, he2, hk2, hv2, hb2⟩ := hrel 0 e rfl
      simp at he2; subst he2
      simp only [findE] at h
      cases hq : eqv (eqShape ti sk 20 t) k e.key with
      | none => rw [hq] at h; simp at h
      | some b =>
        rw [hq] at h
        have hrun := fun w => run_equal T hq hk hk2 w
        cases b with
        | true =>
          simp only [Option.some.injEq] at h; subst h
          refine ⟨some (i, e'.val), .some (Nat.le_refl _) (e' := e') (by simp) rfl hv2, fun q hq' => ?_, fun w => by simp [Instr.findAsking, hrun]⟩
          simp only [Instr.findNow] at hq'
          cases hs : Instr.sameNow d k' e'.key with
          | none => rw [hs] at hq'; simp at hq'
          | some b' => rw [hs, sameNow_eqv hu hq hk hk2 hs] at hq'; simp at hq'; exact hq'.symm
        | false =>
          simp only at h
          obtain ⟨r', f1, f2, f3⟩ := ih es' (i + 1) (by simpa using hl) (fun j x hx => by simpa using hrel (j + 1) x (by simpa using hx)) h
          refine ⟨r', ?_, fun q hq' => ?_, fun w => by simp [Instr.findAsking, hrun, f3]⟩
          · cases f1 with
            | none => exact .none
            | some a b c dd =>
              rename_i ii vv vv' ee
              refine .some (by omega) (e' := ee) ?_ c dd
              have : ii - i = (ii - (i + 1)) + 1 := by omega
              rw [this]; simpa using b
          · simp only [Instr.findNow] at hq'
            cases hs : Instr.sameNow d k' e'.key with
            | none => rw [hs] at hq'; simp at hq'
            | some b' => rw [hs, sameNow_eqv hu hq hk hk2 hs] at hq'; exact f2 q hq'

theorem run_findKey' {t : TypeId} {k k' : Value} (hk : Rel μ k k') {es : List MapEntry} {es' : Array MapEntry} {r : Option (Nat × Value)} (hl : es.length = es'.size) (hrel : ∀ (j : Nat) e, es[j]? = some e → ∃ e', es'[j]? = some e' ∧ EntRel μ e e')
    (hs : eqv (eqShape ti sk 20 t) k k = some true) (h : findE (eqShape ti sk 20 t) k es 0 = some r) : ∃ r', FRel μ es'.toList 0 r r' ∧ ∀ w, (Instr.findKey t k' es'.toList).run P w = .ok r' w := by
  cases hu : und ti t with
  | none => simp [eqShape, hu, eqv] at hs
  | some d =>
    obtain ⟨r', f1, f2, f3⟩ := run_findKey T hu hk es es'.toList 0 (by simpa using hl) (fun j e he => by simpa using hrel j e he) h
    refine ⟨r', f1, fun w => ?_⟩
    simp only [Instr.findKey, Sem.run_bind, run_und T.info hu, Result.andThen]
    cases hq : Instr.findNow d k' es'.toList 0 with
    | none => exact f3 w
    | some q => simp [f2 q hq]
end
end Go.Am

namespace Go.Am
section
variable {P : Program} {ρ : Operand → Value} {o : Oper} {μ : Mp} {w : World} {σ σ' : St} {v : Value} {G : GT} {L : TypeId → Nat → Nat → TypeId → Bool} {env : Env} {D : Operand → Bool}
variable {ti : TypeId → Option TypeInfo} {sk : TypeId → Bool}

theorem ba_refl (s : ByteArray) : (s == s) = true := by
  cases s; rename_i d
  show (d == d) = true
  simp
theorem ba_eq {s t : ByteArray} (h : (s == t) = true) : s = t := by
  cases s; cases t; rename_i d e
  have : (d == e) = true := h
  simp at this; rw [this]
theorem scalEq_eq {a b : Value} (h : scalEq a b = true) : a = b ∧ scal a = true := by
  cases a <;> cases b <;> simp [scalEq] at h
  · subst h; exact ⟨rfl, rfl⟩
  · obtain ⟨rfl, rfl⟩ := h; exact ⟨rfl, rfl⟩
  · rw [ba_eq h]; exact ⟨rfl, rfl⟩
theorem sameBits_scal {a : Value} (h : scal a = true) (n : Nat) : Instr.sameBits n a a = true := by
  cases a <;> simp [scal] at h <;> cases n <;> simp [Instr.sameBits, ba_refl]
theorem scalEqL_eq : ∀ {a b : List Value}, scalEqL a b = true → a = b ∧ a.all scal = true
  | [], [], _ => ⟨rfl, rfl⟩
  | [], _ :: _, h => by simp [scalEqL] at h
  | _ :: _, [], h => by simp [scalEqL] at h
  | x :: xs, y :: ys, h => by
    simp only [scalEqL, Bool.and_eq_true] at h
    obtain ⟨rfl, e⟩ := scalEq_eq h.1
    obtain ⟨rfl, e2⟩ := scalEqL_eq h.2
    exact ⟨rfl, by simp [e]; simpa using e2⟩
theorem RelL.of_scal : ∀ {xs ys : List Value}, xs.all scal = true → RelL μ xs ys → ys = xs
  | _, _, _, .nil => rfl
  | _, _, h, .cons a r => by
    simp only [List.all_cons, Bool.and_eq_true] at h
    rw [a.of_scal h.1, RelL.of_scal h.2 r]
theorem sameKey_bits {a b a' b' : Value} (h : sameKey a b = true) (ha : Rel μ a a') (hb : Rel μ b b') : Instr.sameBits 10000 a' b' = true := by
  cases a <;> cases b <;> first | (simp [sameKey, scalEq] at h; done) | skip
  · simp only [sameKey] at h; obtain ⟨e, s⟩ := scalEq_eq h; rw [← e] at hb; rw [ha.of_scal s, hb.of_scal s]; exact sameBits_scal s _
  · simp only [sameKey] at h; obtain ⟨e, s⟩ := scalEq_eq h; rw [← e] at hb; rw [ha.of_scal s, hb.of_scal s]; exact sameBits_scal s _
  · simp only [sameKey] at h; obtain ⟨e, s⟩ := scalEq_eq h; rw [← e] at hb; rw [ha.of_scal s, hb.of_scal s]; exact sameBits_scal s _
  · rename_i xs ys
    simp only [sameKey] at h
    obtain ⟨e, s⟩ := scalEqL_eq h
    cases ha with
    | agg h1 => cases hb with
      | agg h2 =>
        simp only at e s
        subst e
        rw [RelL.of_scal s h1, RelL.of_scal s h2]
        simp only [Instr.sameBits, BEq.rfl, Bool.true_and]
        rename_i zs _ _
        clear h h1 h2
        induction zs with
        | nil => rfl
        | cons z zs ih =>
          simp only [List.all_cons, Bool.and_eq_true] at s
          simp [sameBits_scal s.1]
          intro a b hab; have := ih s.2; simp at this; exact this a b hab

variable (hρ : OpdRel D G env μ ρ) (ok : Ok μ w σ)
include hρ ok

omit hρ ok in
theorem getMap_some {r : Nat} {x : List MapEntry × Nat} {σ1 : St} (h : getMap r σ = some (x, σ1)) : σ.heap.get r = some (.map x.1 x.2) ∧ σ1 = σ := by
  unfold getMap at h
  split at h
  · rename_i es c hb; simp at h; obtain ⟨rfl, rfl⟩ := h; exact ⟨hb, rfl⟩
  · simp at h

omit hρ in
theorem snd_mkmap {t : TypeId} (hop : o.op = .makeMap t none) (h : aop G L env .mkmap σ = some (v, σ')) : OpOut P ρ o μ w σ v σ' := by
  obtain ⟨b, σ1, h1, h2⟩ := H.bind_some h
  obtain ⟨rfl, rfl⟩ := newBlk_some h1
  obtain ⟨rfl, rfl⟩ := H.pure_some h2
  have hext := Mp.up_ext (B := w.heap.size) (lim := 0) (ok.free σ.next (Nat.le_refl _))
  refine ⟨.value (.map (some w.heap.size)), { w with heap := w.heap.push (.map #[] 0) }, _, _, _, ?_, Step.newBlk ok (.map [] 0) (.map #[] 0) 0 _ rfl ⟨#[], rfl, rfl, fun i e h => by simp at h⟩, rfl, .map (Mp.up_same ..), fun _ h => h.elim⟩
  simp [execOp, hop, Instr.makeMap, newObj, Sem.run]

theorem snd_lookup (T : TOk P ti sk) {t kt e : TypeId} {m k : Operand} {z : Value} {okk : Bool} (hop : o.op = .lookup t m k okk) (hm : D m = true) (hk : D k = true) (hu : und ti t = some (.map kt e)) (hz : zeroOf? ti e = some z) (hzc : closedC z = true)
    (h : aop G L env (.lookup (eqShape ti sk 20 kt) z okk (opd m) (opd k)) σ = some (v, σ')) : OpOut P ρ o μ w σ v σ' := by
  simp only [aop] at h
  cases hv : ev G env (opd m) with
  | none => rw [hv] at h; exact (H.fail_some h).elim
  | some mv =>
    cases hvk : ev G env (opd k) with
    | none => rw [hv, hvk] at h; exact (H.fail_some h).elim
    | some kv =>
      rw [hv, hvk] at h
      simp only at h
      cases hs : eqv (eqShape ti sk 20 kt) kv kv with
      | none => rw [hs] at h; exact (H.fail_some (σ := σ) h).elim
      | some b =>
        cases b with
        | false => rw [hs] at h; exact (H.fail_some (σ := σ) h).elim
        | true =>
        rw [hs] at h
        have hrm := hρ m hm _ hv
        have hrk := hρ k hk _ hvk
        generalize hq : ρ m = q at hrm
        generalize hq' : ρ k = q' at hrk
        obtain ⟨es, σ1, h1, h2⟩ := H.bind_some h
        obtain ⟨r, σ2, h3, h4⟩ := H.bind_some h2
        obtain ⟨h3', rfl⟩ := H.opt_some h3
        -- the entries
        have hes : ∃ es' : Array MapEntry, es.length = es'.size ∧ (∀ (j : Nat) e, es[j]? = some e → ∃ e', es'[j]? = some e' ∧ EntRel μ e e') ∧ σ2 = σ ∧
            ((q = .map none ∧ es' = #[]) ∨ ∃ B cl, q = .map (some B) ∧ w.heap[B]? = some (.map es' cl)) := by
          cases hrm with
          | map0 =>
            obtain ⟨rfl, rfl⟩ := H.pure_some h1
            exact ⟨#[], rfl, fun j e he => by simp at he, rfl, .inl ⟨rfl, rfl⟩⟩
          | map e1 =>
            obtain ⟨x, σ3, k1, k2⟩ := H.bind_some h1
            obtain ⟨hb, rfl⟩ := getMap_some k1
            obtain ⟨rfl, rfl⟩ := H.pure_some k2
            obtain ⟨B', l', g1, es', g2, g3, g4⟩ := ok.sim.live _ _ hb
            rw [e1] at g1; cases g1
            exact ⟨es', g3, g4, rfl, .inr ⟨_, _, rfl, g2⟩⟩
          | _ => exact (H.fail_some (σ := σ) h1).elim
        obtain ⟨es', hl, hrel, rfl, hrun⟩ := hes
        obtain ⟨r', hf, hfind⟩ := run_findKey' T hrk hl hrel hs h3'
        have hck := fun em => run_checkKey T em 20 kt 10000 (by omega) hs hrk w
        have hz' : Rel μ z z := .closedC hzc
        have hfin : ∃ v', (execOp ρ o).run P w = .ok (.value v') w ∧ Rel μ v v' ∧ σ' = σ2 := by
          cases hf with
          | none =>
            obtain ⟨rfl, rfl⟩ := H.pure_some h4
            refine ⟨bif okk then .tuple #[z, .bool false] else z, ?_, ?_, rfl⟩
            · rcases hrun with ⟨hq0, he0⟩ | ⟨B, cl, hq0, g2⟩
              · subst he0; cases okk <;> simp [execOp, hop, hq, hq', hq0, Instr.lookup, run_und T.info hu, hck, hfind, run_zero T.info hz] <;> simpa using hfind w
              · cases okk <;> simp [execOp, hop, hq, hq', hq0, Instr.lookup, run_und T.info hu, getObj, Sem.run, g2, hck, hfind, run_zero T.info hz]
            · cases okk with
              | true => exact .tuple (.cons hz' (.cons (.bool _) .nil))
              | false => exact hz'
          | some a b c dd =>
            rename_i i v0 v1 e1
            obtain ⟨rfl, rfl⟩ := H.pure_some h4
            refine ⟨bif okk then .tuple #[v1, .bool true] else v1, ?_, ?_, rfl⟩
            · rcases hrun with ⟨hq0, he0⟩ | ⟨B, cl, hq0, g2⟩
              · subst he0; cases okk <;> simp [execOp, hop, hq, hq', hq0, Instr.lookup, run_und T.info hu, hck, hfind] <;> simpa using hfind w
              · cases okk <;> simp [execOp, hop, hq, hq', hq0, Instr.lookup, run_und T.info hu, getObj, Sem.run, g2, hck, hfind]
            · cases okk with
              | true => exact .tuple (.cons dd (.cons (.bool _) .nil))
              | false => exact dd
        obtain ⟨v', e1, e2, rfl⟩ := hfin
        exact .pure ok e1 rfl e2

theorem snd_mapupd (T : TOk P ti sk) {t kt e : TypeId} {m k x : Operand} (hop : o.op = .mapUpdate t m k x) (hm : D m = true) (hk : D k = true) (hx : D x = true) (hu : und ti t = some (.map kt e))
    (h : aop G L env (.mapupd (eqShape ti sk 20 kt) (opd m) (opd k) (opd x)) σ = some (v, σ')) : OpOut P ρ o μ w σ v σ' := by
  simp only [aop] at h
  cases hv : ev G env (opd m) with
  | none => rw [hv] at h; exact (H.fail_some h).elim
  | some mv =>
    have hrm := hρ m hm _ hv
    generalize hq : ρ m = q at hrm
    cases hvk : ev G env (opd k) with
    | none => rw [hv, hvk] at h; cases hrm <;> exact (H.fail_some h).elim
    | some kv =>
      cases hvx : ev G env (opd x) with
      | none => rw [hv, hvk, hvx] at h; cases hrm <;> exact (H.fail_some h).elim
      | some xv =>
      rw [hv, hvk, hvx] at h
      cases hrm with
      | map e1 =>
        rename_i b B lim
        simp only at h
        cases hs : eqv (eqShape ti sk 20 kt) kv kv with
        | none => rw [hs] at h; exact (H.fail_some (σ := σ) h).elim
        | some bb =>
          cases bb with
          | false => rw [hs] at h; exact (H.fail_some (σ := σ) h).elim
          | true =>
          rw [hs] at h
          have hrk := hρ k hk _ hvk
          have hrx := hρ x hx _ hvx
          generalize hq' : ρ k = q' at hrk
          generalize hqx : ρ x = qx at hrx
          obtain ⟨ec, σ1, h1, h2⟩ := H.bind_some h
          obtain ⟨hb, rfl⟩ := getMap_some h1
          obtain ⟨r, σ2, h3, h4⟩ := H.bind_some h2
          obtain ⟨h3', rfl⟩ := H.opt_some h3
          obtain ⟨B', l', g1, es', g2, g3, g4⟩ := ok.sim.live _ _ hb
          have g1' := e1
          rw [g1] at g1'; cases g1'
          obtain ⟨r', hf, hfind⟩ := run_findKey' T hrk g3 g4 hs h3'
          have hck := run_checkKey T false 20 kt 10000 (by omega) hs hrk w
          have hBs : B < w.heap.size := by
            rcases Nat.lt_or_ge B w.heap.size with hh | hh
            · exact hh
            · rw [Array.getElem?_eq_none hh] at g2; cases g2
          have fin : ∀ (x : Blk) (obj : Obj), (execOp ρ o).run P w = .ok .skip { w with heap := w.heap.setIfInBounds B obj } → BlkRel μ x lim (some obj) →
              OpOut P ρ o μ w σ2 (.tuple #[]) { heap := σ2.heap.set b (some x), next := σ2.next, lo := bif Nat.ble b σ2.lo then b else σ2.lo } := by
            intro x obj hr hx
            refine ⟨.skip, _, μ, _, undef, hr, Step.putBlk ok b B lim _ x _ hb g1 (by simp) (fun B' hB' => by simp [Array.getElem?_setIfInBounds_ne (Ne.symm hB')]) (by simpa [hBs] using hx) _ ?_ ?_, rfl, .tuple .nil, fun c h => by rw [h]; simp only [lo_min]⟩
            · rw [lo_min]; omega
            · rw [lo_min]; omega
          cases hf with
          | none =>
            obtain ⟨u, σ3, p1, p2⟩ := H.bind_some h4
            simp [putBlk] at p1
            subst p1
            obtain ⟨rfl, rfl⟩ := H.pure_some p2
            refine fin _ (.map (es'.push { key := q', val := qx, born := ec.2 }) (ec.2 + 1)) ?_ ⟨_, rfl, by simp [g3], fun j e he => ?_⟩
            · simp [execOp, hop, hq, hq', hqx, Instr.mapUpdate, run_und T.info hu, getObj, setObj, Sem.run, g2, hck, hfind]
            · rw [List.getElem?_append] at he
              split at he
              · rename_i hj
                obtain ⟨e', a1, a2⟩ := g4 j e he
                refine ⟨e', ?_, a2⟩
                rw [Array.getElem?_push, if_neg (by omega)]; exact a1
              · rename_i hj
                have : j = ec.1.length := by
                  have := List.getElem?_eq_some_iff.1 he; obtain ⟨h1, _⟩ := this; simp at h1; omega
                subst this
                simp at he; subst he
                exact ⟨{ key := q', val := qx, born := ec.2 }, by rw [Array.getElem?_push, if_pos g3], hrk, hrx, rfl⟩
          | some a b' c dd =>
            rename_i i v0 v1 e0
            simp only at h4
            cases hei : ec.1[i]? with
            | none => rw [hei] at h4; exact (H.fail_some (σ := σ2) h4).elim
            | some e2 =>
              rw [hei] at h4
              simp only at h4
              cases hsk : sameKey e2.key kv with
              | false => rw [hsk] at h4; exact (H.fail_some (σ := σ2) h4).elim
              | true =>
                rw [hsk] at h4
                obtain ⟨u, σ3, p1, p2⟩ := H.bind_some h4
                simp [putBlk] at p1
                subst p1
                obtain ⟨rfl, rfl⟩ := H.pure_some p2
                obtain ⟨e3, a1, a2, a3, a4⟩ := g4 i e2 hei
                have hsb := sameKey_bits hsk a2 hrk
                have hi : i < es'.size := by
                  rcases Nat.lt_or_ge i es'.size with hh | hh
                  · exact hh
                  · rw [Array.getElem?_eq_none hh] at a1; cases a1
                refine fin _ (.map (es'.modify i fun e => { e with key := q', val := qx }) ec.2) ?_ ⟨_, rfl, by simp [g3], fun j e he => ?_⟩
                · simp [execOp, hop, hq, hq', hqx, Instr.mapUpdate, run_und T.info hu, getObj, setObj, Sem.run, g2, hck, hfind, Instr.keyThatStays, a1, hsb]
                · rw [List.getElem?_set] at he
                  rw [Array.getElem?_modify]
                  by_cases hij : i = j
                  · subst hij
                    rw [if_pos rfl, if_pos (by omega)] at he
                    cases he
                    exact ⟨{ key := q', val := qx, born := e3.born }, by rw [if_pos rfl, a1]; rfl, hrk, hrx, a4⟩
                  · rw [if_neg hij] at he
                    rw [if_neg hij]
                    exact g4 j e he
      | map0 => exact (H.fail_some (σ := σ) h).elim
      | _ => exact (H.fail_some (σ := σ) h).elim
end
end Go.Am

