/-
  The abstract machine: what an operation does is sound, third part.
-/
import Derived.Test.YtkhhjbmkahibaaaGreatDoorAmC
import Derived.Laws.BytesString
import Derived.Lib.UnsafeStr
set_option linter.unusedVariables false
set_option linter.unusedSimpArgs false
set_option linter.unusedSectionVars false
set_option linter.unnecessarySimpa false
namespace Go.Am
section
variable {P : Program} {ρ : Operand → Value} {o : Oper} {μ : Mp} {w : World} {σ σ' : St} {v : Value} {G : GT} {L : TypeId → Nat → Nat → TypeId → Bool} {env : Env} {D : Operand → Bool}
variable {ti : TypeId → Option TypeInfo} {sk : TypeId → Bool}

theorem bytesOf_spec : ∀ {c : List Value} {l : List UInt8}, bytesOf c = some l → ∃ ns : List Int, c = ns.map (Value.int .u8) ∧ l = ns.map fun n => UInt8.ofNat n.toNat
  | [], l, h => by simp [bytesOf] at h; exact ⟨[], rfl, by simp [h]⟩
  | x :: xs, l, h => by
    cases x with
    | int k n =>
      cases k <;> simp only [bytesOf] at h <;> try (simp at h; done)
      cases hr : bytesOf xs with
      | none => rw [hr] at h; simp at h
      | some r =>
        rw [hr] at h; simp at h
        obtain ⟨ns, a, b⟩ := bytesOf_spec hr
        exact ⟨n :: ns, by simp [a], by simp [← h, b]⟩
    | _ => simp [bytesOf] at h

theorem RelL.of_bytes : ∀ {ns : List Int} {c : List Value}, RelL μ (ns.map (Value.int .u8)) c → c = ns.map (Value.int .u8)
  | [], _, .nil => rfl
  | n :: ns, _, .cons a r => by rw [Rel.of_int a, RelL.of_bytes r]; rfl

theorem foldl_push : ∀ (ns : List Int) (s : ByteArray), ns.foldl (fun r n => r.push (UInt8.ofNat n.toNat)) s = ⟨s.data ++ (ns.map fun n => UInt8.ofNat n.toNat).toArray⟩
  | [], s => by simp
  | n :: ns, s => by
    rw [List.foldl_cons, foldl_push ns]
    congr 1
    simp [ByteArray.push]

theorem run_loadBytes' : ∀ (ns : List Int) (B oo : Nat) (acc : ByteArray), (∀ j n, ns[j]? = some n → w.cell? ⟨B, oo + j, none⟩ = some (.int .u8 n)) →
    (loadBytes ⟨B, oo, none⟩ acc ns.length).run P w = .ok ⟨acc.data ++ (ns.map fun n => UInt8.ofNat n.toNat).toArray⟩ w
  | [], B, oo, acc, _ => by simp [loadBytes]
  | n :: ns, B, oo, acc, h => by
    have h0 := h 0 n rfl
    have ih := run_loadBytes' ns B (oo + 1) (acc.push n.toNat.toUInt8) (fun j y hy => by
      have := h (j + 1) y (by simpa using hy)
      rw [← this]; congr 2; omega)
    simp only [Nat.add_zero] at h0
    simp only [List.length_cons, loadBytes, Sem.run_bind, run_load, h0, Result.andThen, addr_add]
    rw [ih]
    congr 1
    apply ByteArray.ext
    simp [ByteArray.push]

theorem push_modify {α : Type} (a : Array α) (x : α) (f : α → α) : (a.push x).modify a.size f = a.push (f x) := by
  apply Array.ext
  · simp
  · intro i h1 h2
    simp only [Array.getElem_modify, Array.getElem_push]
    by_cases h : i < a.size
    · rw [if_neg (by omega)]; simp [h]
    · have : i = a.size := by simp at h1; omega
      subst this; simp

variable (T : TOk P ti sk) (hρ : OpdRel D G env μ ρ) (ok : Ok μ w σ)
include T hρ ok

theorem snd_conv_int {s d : TypeId} {j k : IntKind} {x : Operand} (hop : o.op = .convert s d x) (hx : D x = true)
    (hu : und ti s = some (.int j)) (hu2 : und ti d = some (.int k)) (h : aop G L env (.conv (.int k) (opd x)) σ = some (v, σ')) : OpOut P ρ o μ w σ v σ' := by
  simp only [aop] at h
  cases hv : ev G env (opd x) with
  | none => rw [hv] at h; exact (H.fail_some h).elim
  | some xv =>
    rw [hv] at h
    have hr := hρ x hx _ hv
    generalize hq : ρ x = q at hr
    cases hr with
    | int k' n =>
      obtain ⟨h1, rfl⟩ := H.opt_some h
      obtain ⟨h2, h3⟩ := scalOf_some h1
      refine .pure ok (n := .value v) ?_ rfl (Rel.scal h3)
      have h4 := pureSem_run (P := P) h2 w
      simp [execOp, hop, hq, convert, run_und T.info hu, run_und T.info hu2, h4]
    | _ => exact (H.fail_some h).elim

theorem snd_conv_str {s d : TypeId} {x : Operand} (hop : o.op = .convert s d x) (hx : D x = true)
    (hu : und ti s = some .string) (hu2 : und ti d = some .string) (h : aop G L env (.conv .strId (opd x)) σ = some (v, σ')) : OpOut P ρ o μ w σ v σ' := by
  simp only [aop] at h
  cases hv : ev G env (opd x) with
  | none => rw [hv] at h; exact (H.fail_some h).elim
  | some xv =>
    rw [hv] at h
    have hr := hρ x hx _ hv
    generalize hq : ρ x = q at hr
    cases hr with
    | string t =>
      obtain ⟨rfl, rfl⟩ := H.pure_some h
      refine .pure ok (n := .value (.string t)) ?_ rfl (.string t)
      simp [execOp, hop, hq, convert, run_und T.info hu, run_und T.info hu2]
    | _ => exact (H.fail_some h).elim

theorem snd_conv_b2s {s d e : TypeId} {x : Operand} (hop : o.op = .convert s d x) (hx : D x = true)
    (hu : und ti s = some (.slice e)) (hu2 : und ti d = some .string) (hu3 : und ti e = some (.int .u8)) (h : aop G L env (.conv .b2s (opd x)) σ = some (v, σ')) : OpOut P ρ o μ w σ v σ' := by
  simp only [aop] at h
  cases hv : ev G env (opd x) with
  | none => rw [hv] at h; exact (H.fail_some h).elim
  | some xv =>
    rw [hv] at h
    simp only at h
    obtain ⟨⟨n, c⟩, σ1, k1, k2⟩ := H.bind_some h
    obtain ⟨l, σ2, k3, k4⟩ := H.bind_some k2
    obtain ⟨k3', hσ⟩ := H.opt_some k3
    obtain ⟨hv4, hσ'⟩ := H.pure_some k4
    subst hσ hσ' hv4
    have k1' := show srcOf 1 xv σ = some ((n, c), _) by
      cases xv with
      | string t => cases k1
      | _ => exact k1
    have hns : ∀ t, xv ≠ .string t := by
      intro t e; subst e; cases k1
    have hr := hρ x hx _ hv
    obtain ⟨hσ, g1, g2, new', g3, g4⟩ := run_src (P := P) ok k1' hr
    subst hσ
    obtain ⟨ns, rfl, rfl⟩ := bytesOf_spec k3'
    have := RelL.of_bytes g3
    subst this
    have g5 := g4 w rfl
    generalize hq : ρ x = q at hr g1 g4 g5
    have key : (Conv.bytesToString q).run P w = .ok (.string ⟨⟨ns.map fun n => UInt8.ofNat n.toNat⟩⟩) w := by
      cases hr with
      | slice0 =>
        simp [Builtin.firstCells] at g5
        subst g5
        rfl
      | lost =>
        rename_i a
        simp [Builtin.lenOf] at g1
        subst g1
        simp only [Builtin.firstCells, Nat.zero_mul] at g5
        rw [run_bytesToString (P := P) w a 0 _ ns g5, foldl_push]
        simp
      | slice e1 e2 e3 e4 e5 e6 =>
        rename_i b oo B lim tag len cap cap'
        simp [Builtin.lenOf] at g1
        subst g1
        simp only [Builtin.firstCells, Nat.mul_one] at g5
        rw [run_bytesToString (P := P) w _ _ _ ns g5, foldl_push]
        simp
      | string t => exact absurd rfl (hns t)
      | _ => cases k1
    have hsl : ∃ a l c, q = .slice a l c := by
      cases hr with
      | slice0 => exact ⟨_, _, _, rfl⟩
      | lost => exact ⟨_, _, _, rfl⟩
      | slice => exact ⟨_, _, _, rfl⟩
      | string t => exact absurd rfl (hns t)
      | _ => cases k1
    obtain ⟨a, l, c, rfl⟩ := hsl
    refine .pure ok (n := .value _) ?_ rfl (.string _)
    rw [execOp, hop]
    simp only [hq]
    rw [Sem.run_bind, run_convert_bytes_string w s d e a l c (und_spec T.info hu) (und_spec T.info hu3) (und_spec T.info hu2), key]
    rfl

omit T hρ ok in
theorem run_freeze_push (w : World) (cs : Array Value) (e : TypeId) (n : Nat) (hn : cs.size = n) :
    ((w.alloc (.cells cs e)).freeze ⟨w.heap.size, n, none⟩ 1).heap = w.heap.push (.cells cs e (n, n + 1)) := by
  unfold World.freeze World.alloc
  simp only [Nat.one_ne_zero, if_false]
  rw [push_modify]
  simp

omit T hρ ok in
theorem run_mark_alloc (w : World) (cs : Array Value) (e : TypeId) (n : Nat) (hn : cs.size = n) :
    (markStringish ⟨w.heap.size, 0, none⟩).run P (w.alloc (.cells cs e)) = .ok () ((w.alloc (.cells cs e)).freeze ⟨w.heap.size, n, none⟩ 1) := by
  have : (w.alloc (.cells cs e)).shape? w.heap.size = some (e, n) := by
    unfold World.shape? World.alloc; simp [hn]
  simp only [markStringish, shape, freeze, Bind.bind, Sem.bind, Sem.run, this]

theorem snd_conv_s2b {s d e : TypeId} {x : Operand} (hop : o.op = .convert s d x) (hx : D x = true)
    (hu : und ti s = some .string) (hu2 : und ti d = some (.slice e)) (hu3 : und ti e = some (.int .u8)) (h : aop G L env (.conv (.s2b e) (opd x)) σ = some (v, σ')) : OpOut P ρ o μ w σ v σ' := by
  simp only [aop] at h
  cases hv : ev G env (opd x) with
  | none => rw [hv] at h; exact (H.fail_some h).elim
  | some xv =>
    rw [hv] at h
    have hr := hρ x hx _ hv
    generalize hq : ρ x = q at hr
    cases hr with
    | string t =>
      obtain ⟨b, σ2, k3, k4⟩ := H.bind_some h
      obtain ⟨rfl, rfl⟩ := newBlk_some k3
      obtain ⟨rfl, rfl⟩ := H.pure_some k4
      have hcap := grownCap_ge w t.size 0 e
      generalize hC : grownCap w t.size 0 e = C at hcap
      let cs : Array Value := (t.data.map fun b => Value.int .u8 b.toNat) ++ Array.replicate (C - t.size) (.int .u8 0)
      have hsz : cs.size = C := by
        have : t.data.size = t.size := rfl
        simp [cs]; omega
      let w1 : World := (w.drew.alloc (.cells cs e)).freeze ⟨w.heap.size, C, none⟩ 1
      have hw1 : w1.heap = w.heap.push (.cells cs e (C, C + 1)) := run_freeze_push w.drew cs e C hsz
      have hext := Mp.up_ext (B := w.heap.size) (lim := C) (ok.free σ.next (Nat.le_refl _))
      have st := Step.newBlk ok (.cells (t.data.toList.map fun x => .int .u8 x.toNat) 0 e 2) _ C w1 hw1 (by
        refine ⟨cs, (C, C + 1), rfl, by simpa using hcap, by omega, (fun e => by cases e), (fun i u hu => ?_), ⟨fun i _ h => by simp only; omega, fun h => absurd rfl h⟩⟩
        rw [List.getElem?_map] at hu
        obtain ⟨y, hy, rfl⟩ := Option.map_eq_some_iff.mp hu
        refine ⟨_, ?_, .int _ _⟩
        have hlt := (List.getElem?_eq_some_iff.mp hy).1
        simp only [cs]
        rw [Array.getElem?_append_left (by simpa using hlt)]
        simp at hy ⊢
        exact ⟨y, hy, rfl⟩)
      refine ⟨.value (.slice (some ⟨w.heap.size, 0, none⟩) t.size C), w1, _, _, _, ?_, st, rfl, .slice (Mp.up_same ..) (by simp [tagOf]) (Nat.le_refl _) (fun h => by simp at h) hcap (by simp), fun _ h => h.elim⟩
      have hq2 : (Question.appendCap t.size 0 e).forced = false := rfl
      have hd : (Question.appendCap t.size 0 e).cut (w.tape w.drawn (Question.appendCap t.size 0 e)) = C := hC
      have hm := run_mark_alloc (P := P) w.drew cs e C hsz
      simp only [cs] at hm
      simp [execOp, hop, hq, convert, run_und T.info hu, run_und T.info hu2, run_und T.info hu3, Conv.stringToBytes, hq2, hd, newRow]
      have hwd : w.drew.heap.size = w.heap.size := rfl
      rw [hwd] at hm
      rw [hm]
      rfl
    | _ => exact (H.fail_some h).elim
end
end Go.Am

namespace Go.Am
section
variable {P : Program} {ρ : Operand → Value} {o : Oper} {μ : Mp} {w : World} {σ σ' : St} {v : Value} {G : GT} {L : TypeId → Nat → Nat → TypeId → Bool} {env : Env} {D : Operand → Bool}
variable {ti : TypeId → Option TypeInfo} {sk : TypeId → Bool}

theorem run_shape (w : World) (r : Nat) : (shape r).run P w = .ok (w.shape? r) w := rfl
theorem shape_cells {w : World} {B : Nat} {cs : Array Value} {ty : TypeId} {fr : Nat × Nat} (h : w.heap[B]? = some (.cells cs ty fr)) : w.shape? B = some (ty, cs.size) := by
  simp [World.shape?, h]
theorem run_seenAt {w : World} {B oo : Nat} {cs : Array Value} {ty : TypeId} {fr : Nat × Nat} (h : w.heap[B]? = some (.cells cs ty fr)) : (Conv.seenAt ⟨B, oo, none⟩).run P w = .ok ⟨B, oo, none⟩ w := by
  simp [Conv.seenAt, viewAt, run_shape, shape_cells h]

theorem unsafeString_none (pt it ty : TypeId) (x : Value) : Builtin.unsafeString_ #[pt, it] ty #[.pointer none, x] =
        (do
          let n ← asInt x
          if n < 0 then runtimePanic (.error "unsafe.String: len out of range")
          if n > IntKind.i64.max then unsupported (.unsafePointer "String: a length above the largest int")
          if n = 0 then pure (.string .empty)
          else runtimePanic (.error "unsafe.String: ptr is nil and len is not zero")) := rfl
theorem unsafeString_some (pt it ty : TypeId) (a : Addr) (x : Value) : Builtin.unsafeString_ #[pt, it] ty #[.pointer (some a), x] =
      (do
        let n ← asInt x
        if n < 0 then runtimePanic (.error "unsafe.String: len out of range")
        if n > IntKind.i64.max then unsupported (.unsafePointer "String: a length above the largest int")
        if n = 0 then pure (.string .empty)
        else if ← variablesAt a (← elemOf pt) n.toNat then do
          let s ← loadBytes a .empty n.toNat
          freeze a n.toNat
          pure (.string s)
        else unsupported (.unsafePointer "String: not so many bytes at ptr")) := rfl

variable (T : TOk P ti sk) (hρ : OpdRel D G env μ ρ) (ok : Ok μ w σ)
include T hρ ok

theorem snd_toUnsafe {s d e : TypeId} {n : Nat} {x : Operand} (hop : o.op = .convert s d x) (hx : D x = true)
    (hu : und ti s = some (.pointer e)) (hu2 : und ti d = some .unsafePointer) (hc : cellsOf? ti e = some n) (hn : n ≠ 0) (h : aop G L env (.toUnsafe (opd x)) σ = some (v, σ')) : OpOut P ρ o μ w σ v σ' := by
  simp only [aop] at h
  cases hv : ev G env (opd x) with
  | none => rw [hv] at h; exact (H.fail_some h).elim
  | some xv =>
    rw [hv] at h
    have hr := hρ x hx _ hv
    generalize hq : ρ x = q at hr
    cases hr with
    | ptr0 =>
      obtain ⟨rfl, rfl⟩ := H.pure_some h
      refine .pure ok (n := .value (.pointer none)) ?_ rfl .ptr0
      simp [execOp, hop, hq, convert, run_und T.info hu, run_und T.info hu2, Conv.unsafePointer]
    | ptr e1 =>
      rename_i b oo B lim
      obtain ⟨x1, σ1, k1, k2⟩ := H.bind_some h
      obtain ⟨hb, rfl⟩ := getCells_some k1
      cases hl : Nat.ble (oo + 1) x1.1.length with
      | false => rw [hl] at k2; cases k2
      | true =>
        have hl' := of_bleT hl
        rw [hl] at k2
        obtain ⟨rfl, rfl⟩ := H.pure_some k2
        obtain ⟨cs, fr, g1, g2, g3, g4, g5, g6⟩ := ok.sim.cells hb e1
        refine .pure ok (n := .value (.pointer (some ⟨B, oo, none⟩))) ?_ rfl (.ptr e1)
        have hle : ¬ (cs.size ≤ oo) := by omega
        simp [execOp, hop, hq, convert, run_und T.info hu, run_und T.info hu2, Conv.unsafePointer, run_seenAt g1, cellsIn, run_shape, shape_cells g1, run_size T.info hc, hn, hle]
    | _ => cases h

theorem snd_ofUnsafe (hL : ∀ e n o u, L e n o u = true → liesAt P P.depth e (n / P.cellsOf e) o u 1 = true) {s d e : TypeId} {n : Nat} {x : Operand} (hop : o.op = .convert s d x) (hx : D x = true)
    (hu : und ti s = some .unsafePointer) (hu2 : und ti d = some (.pointer e)) (hc : cellsOf? ti e = some n) (hn : n ≠ 0) (h : aop G L env (.ofUnsafe e (opd x)) σ = some (v, σ')) : OpOut P ρ o μ w σ v σ' := by
  simp only [aop] at h
  cases hv : ev G env (opd x) with
  | none => rw [hv] at h; exact (H.fail_some h).elim
  | some xv =>
    rw [hv] at h
    have hr := hρ x hx _ hv
    generalize hq : ρ x = q at hr
    cases hr with
    | ptr0 =>
      obtain ⟨rfl, rfl⟩ := H.pure_some h
      refine .pure ok (n := .value (.pointer none)) ?_ rfl .ptr0
      simp [execOp, hop, hq, convert, run_und T.info hu, run_und T.info hu2, Conv.unsafePointer]
    | ptr e1 =>
      rename_i b oo B lim
      obtain ⟨x1, σ1, k1, k2⟩ := H.bind_some h
      obtain ⟨hb, rfl⟩ := getCells_some k1
      obtain ⟨c, ro, ty, fl⟩ := x1
      simp only at k2 hb
      cases hl : (Nat.beq fl 0 && L ty c.length oo e) with
      | false => rw [hl] at k2; cases k2
      | true =>
        rw [hl] at k2
        simp only [Bool.and_eq_true] at hl
        obtain ⟨rfl, rfl⟩ := H.pure_some k2
        obtain ⟨cs, fr, g1, g2, g3, g4, g5, g6⟩ := ok.sim.cells hb e1
        have hsz := g4 (of_beqT hl.1)
        have hli := hL _ _ _ _ hl.2
        rw [← hsz] at hli
        refine .pure ok (n := .value (.pointer (some ⟨B, oo, none⟩))) ?_ rfl (.ptr e1)
        simp [execOp, hop, hq, convert, run_und T.info hu, run_und T.info hu2, Conv.unsafePointer, run_seenAt g1, run_size T.info hc, hn, variablesAt, program, run_shape, shape_cells g1, Sem.run, hli]
    | _ => cases h

theorem snd_sliceData {x : Operand} {c : Call} (hop : o.op = .call c) (hc : c.callee = .builtin .unsafeSliceData) (hargs : c.args = #[x]) (hx : D x = true)
    (h : aop G L env (.sliceData (opd x)) σ = some (v, σ')) : OpOut P ρ o μ w σ v σ' := by
  simp only [aop] at h
  cases hv : ev G env (opd x) with
  | none => rw [hv] at h; exact (H.fail_some h).elim
  | some xv =>
    rw [hv] at h
    have hr := hρ x hx _ hv
    generalize hq : ρ x = q at hr
    cases hr with
    | slice0 =>
      obtain ⟨rfl, rfl⟩ := H.pure_some h
      refine .pure ok (n := .value (.pointer none)) ?_ rfl .ptr0
      simp [execOp, hop, resolve, hc, hargs, invoke, builtin, hq, Lib.run_unsafeSliceData_nil]
    | lost => simp at h; cases h
    | slice e1 e2 e3 e4 e5 e6 =>
      rename_i b oo B lim tag len cap cap'
      simp only at h
      cases hl : (Nat.ble 1 cap && Nat.ble 1 tag) with
      | false => rw [hl] at h; cases h
      | true =>
        rw [hl] at h
        simp only [Bool.and_eq_true] at hl
        have := of_bleT hl.1
        obtain ⟨rfl, rfl⟩ := H.pure_some h
        refine .pure ok (n := .value (.pointer (some ⟨B, oo, none⟩))) ?_ rfl (.ptr e1)
        have hne : cap' ≠ 0 := by omega
        simp [execOp, hop, resolve, hc, hargs, invoke, builtin, hq, Lib.run_unsafeSliceData_row w _ _ _ _ _ hne]
    | _ => cases h

theorem snd_unsafeStr {t t' e : TypeId} {x n : Operand} {c : Call} (hop : o.op = .call c) (hc : c.callee = .builtin .unsafeString) (hargs : c.args = #[x, n]) (ht : c.argTypes = #[t, t']) (hx : D x = true) (hn : D n = true)
    (hu : und ti t = some (.pointer e)) (hu2 : und ti e = some (.int .u8)) (hcs : cellsOf? ti e = some 1)
    (h : aop G L env (.unsafeStr e (opd x) (opd n)) σ = some (v, σ')) : OpOut P ρ o μ w σ v σ' := by
  simp only [aop] at h
  cases hv : ev G env (opd x) with
  | none => rw [hv] at h; cases h
  | some xv =>
    have hr := hρ x hx _ hv
    generalize hq : ρ x = q at hr
    cases hvn : ev G env (opd n) with
    | none => rw [hv, hvn] at h; cases hr <;> cases h
    | some nv' =>
      rw [hv, hvn] at h
      have hrn := hρ n hn _ hvn
      generalize hqn : ρ n = qn at hrn
      have hmax : IntKind.i64.max = 9223372036854775807 := rfl
      have hel : (elemOf t).run P w = .ok e w := by simp [elemOf, run_und T.info hu]
      cases hr with
      | ptr0 =>
        cases hrn with
        | int k i =>
          by_cases h0 : i = 0
          · subst h0
            obtain ⟨rfl, rfl⟩ := H.pure_some h
            refine .pure ok (n := .value (.string .empty)) ?_ rfl (.string _)
            simp [execOp, hop, resolve, hc, hargs, ht, invoke, builtin, hq, hqn, unsafeString_none, unsafeString_some, asInt, asIntOf, hel, hmax]
          · exfalso
            cases i with
            | ofNat m => cases m with
              | zero => exact h0 rfl
              | succ m => cases h
            | negSucc m => cases h
        | _ => cases h
      | ptr e1 =>
        rename_i b oo B lim
        cases hrn with
        | int k i =>
          simp only at h
          split at h
          · rename_i hb
            obtain ⟨hb1, hb2⟩ := hb
            have t1 : ¬ (i < 0) := by omega
            have t2 : ¬ (9223372036854775807 < i) := by omega
            cases h0 : Nat.beq i.toNat 0 with
            | true =>
              have := of_beqT h0
              have hi : i = 0 := by omega
              subst hi
              rw [h0] at h
              obtain ⟨rfl, rfl⟩ := H.pure_some h
              refine .pure ok (n := .value (.string .empty)) ?_ rfl (.string _)
              simp [execOp, hop, resolve, hc, hargs, ht, invoke, builtin, hq, hqn, unsafeString_none, unsafeString_some, asInt, asIntOf, hel, hmax]
            | false =>
              have hne := of_beqF h0
              rw [h0] at h
              simp only [cond_false] at h
              obtain ⟨x1, σ1, k1, k2⟩ := H.bind_some h
              obtain ⟨hb', rfl⟩ := getCells_some k1
              obtain ⟨cc, ro, ty, fl⟩ := x1
              simp only at k2 hb'
              obtain ⟨l1, σ2, k3, k4⟩ := H.bind_some k2
              obtain ⟨k3', hσ1⟩ := H.opt_some k3
              obtain ⟨l2, σ3, k5, k6⟩ := H.bind_some k4
              obtain ⟨k5', hσ2⟩ := H.opt_some k5
              subst hσ1 hσ2
              cases hcd : (Nat.beq oo 0 && Nat.beq ty e && Nat.beq fl 1) with
              | false => rw [hcd] at k6; cases k6
              | true =>
                rw [hcd] at k6
                simp only [Bool.and_eq_true] at hcd
                obtain ⟨⟨q1, q2⟩, q3⟩ := hcd
                have q1 := of_beqT q1
                have q2 := of_beqT q2
                have q3 := of_beqT q3
                subst q1 q2 q3
                simp only [cond_true] at k6
                obtain ⟨u, σ4, k7, k8⟩ := H.bind_some k6
                obtain ⟨rfl, rfl⟩ := H.pure_some k8
                simp only [putBlk, Option.some.injEq, Prod.mk.injEq, true_and] at k7
                subst k7
                simp only [lo_min]
                obtain ⟨cs, fr, g1, g2, g3, g4, g5, g6, g7⟩ := ok.sim.cells hb' e1
                obtain ⟨hl, rfl⟩ := take?_spec k3'
                simp only [Nat.zero_add] at hl
                obtain ⟨ns, hns, rfl⟩ := bytesOf_spec k5'
                obtain ⟨r, hr1, rfl⟩ := g7 (by decide)
                have hnl : ns.length = i.toNat := by
                  have := congrArg List.length hns
                  simp at this; omega
                have hcell : ∀ j m, ns[j]? = some m → w.cell? ⟨B, 0 + j, none⟩ = some (.int .u8 m) := by
                  intro j m hj
                  have hjl := (List.getElem?_eq_some_iff.mp hj).1
                  have : (ns.map (Value.int .u8))[j]? = some (.int .u8 m) := by simp [hj]
                  rw [← hns, List.getElem?_take] at this
                  rw [if_pos (by omega)] at this
                  simp only [List.drop_zero] at this
                  obtain ⟨v', p1, p2⟩ := g5 _ _ this
                  rw [Rel.of_int p2] at p1
                  simp [World.cell?, g1, p1]
                have hload := run_loadBytes' (P := P) (w := w) ns B 0 .empty hcell
                rw [hnl] at hload
                have hcof : P.cellsOf ty = 1 := by
                  have hti := T.info
                  unfold cellsOf? at hcs
                  cases hi' : ti ty with
                  | none => rw [hi'] at hcs; simp at hcs
                  | some inf =>
                    rw [hi'] at hcs; simp at hcs
                    simp [Program.cellsOf, hti _ _ hi', hcs]
                have hlies := Lib.liesAt_bytes (P := P) hcof (cs.size / 1) i.toNat (by rw [Nat.div_one]; omega)
                let w' := w.freeze ⟨B, 0, none⟩ i.toNat
                have hwh : w'.heap = w.heap.modify B fun | .cells c elem (lo, hi) => .cells c elem (if lo == hi then (0, 0 + i.toNat) else (min lo 0, max hi (0 + i.toNat))) | o => o := by
                  show (if i.toNat = 0 then w else _).heap = _
                  rw [if_neg hne]
                  rfl
                have hB := (Array.getElem?_eq_some_iff.mp g1)
                have hnew : w'.heap[B]? = some (.cells cs ty (0, max r i.toNat)) := by
                  rw [hwh, Array.getElem?_modify, if_pos rfl, g1]
                  simp only [Option.map_some]
                  congr 2
                  by_cases hr0 : r = 0
                  · subst hr0; simp
                  · have : ((0 == r) = false) := by simp; omega
                    simp [this]
                have st := Step.putBlk ok b B lim _ (.cells cc (max ro i.toNat) ty 1) w' hb' e1 (by rw [hwh]; simp) (fun B' hne => by rw [hwh, Array.getElem?_modify, if_neg (fun e => hne e.symm)]) (by
                  refine ⟨cs, _, hnew, g2, g3, g4, g5, ⟨fun j h1 h2 => ?_, fun _ => ⟨max r i.toNat, by omega, rfl⟩⟩⟩
                  simp only; omega) _ (Nat.min_le_left b _) (Nat.min_le_right b _) (by show SameOut w (w.freeze ⟨B, 0, none⟩ i.toNat); unfold World.freeze; split <;> exact ⟨rfl, rfl⟩)
                refine ⟨.value (.string ⟨⟨ns.map fun n => UInt8.ofNat n.toNat⟩⟩), w', _, _, _, ?_, st, rfl, .string _, fun c h => by rw [h]⟩
                have t3 : ¬ (i = 0) := by omega
                simp only [Nat.div_one] at hlies
                simp [execOp, hop, resolve, hc, hargs, ht, invoke, builtin, hq, hqn, unsafeString_some, asInt, asIntOf, hel, hmax, t1, t2, t3, variablesAt, shape_cells g1, hcof, hlies, hload]
                rfl
          · cases h
        | _ => cases h
      | _ => cases h

omit T hρ in
theorem run_src_part {s : Nat} {x x' : Value} {n m : Nat} {new : List Value} (h : srcOf s x σ = some ((n, new), σ')) (hx : Rel μ x x') (hm : m ≤ n) :
    ∃ new', RelL μ (new.take (m * s)) new' ∧ (Builtin.firstCells s m x').run P w = .ok new'.toArray w := by
  cases hx with
  | slice0 =>
    obtain ⟨e, rfl⟩ := H.pure_some h
    cases e
    exact ⟨[], by simpa using .nil, by simp [Builtin.firstCells]⟩
  | lost =>
    obtain ⟨e, rfl⟩ := H.pure_some h
    cases e
    have : m = 0 := by omega
    subst this
    exact ⟨[], by simpa using .nil, by simp [Builtin.firstCells, loadCells, loadCellsFrom]⟩
  | slice e1 e2 e3 e4 e5 e6 =>
    rename_i b oo B lim tag len cap cap'
    simp only [srcOf] at h
    cases h0 : Nat.beq len 0 with
    | true =>
      rw [h0] at h
      have := of_beqT h0
      subst this
      obtain ⟨e, rfl⟩ := H.pure_some h
      cases e
      have : m = 0 := by omega
      subst this
      exact ⟨[], by simpa using .nil, by simp [Builtin.firstCells, loadCells, loadCellsFrom]⟩
    | false =>
      rw [h0] at h
      cases ht : Nat.beq (tag / 2) s with
      | false => rw [ht] at h; cases h
      | true =>
        rw [ht] at h
        simp only [cond_true, cond_false] at h
        obtain ⟨c, σ1, k1, k2⟩ := H.bind_some h
        obtain ⟨c0, ro, ty, fl, hb, hk, rfl⟩ := readCells_some k1
        obtain ⟨e, rfl⟩ := H.pure_some k2
        cases e
        obtain ⟨hl, rfl⟩ := take?_spec hk
        have hle := Nat.mul_le_mul_right s hm
        have hk' : take? c0 oo (m * s) = some ((c0.drop oo).take (m * s)) := by
          unfold take?
          rw [Nat.ble_eq_true_of_le (by omega)]; rfl
        obtain ⟨r', g1, g2⟩ := run_reads (P := P) ok.sim hb e1 hk'
        refine ⟨r', ?_, by simpa [Builtin.firstCells] using g1⟩
        rw [List.take_take, Nat.min_eq_left hle]; exact g2
  | string t =>
    simp only [srcOf] at h
    cases hs : Nat.beq s 1 with
    | false => rw [hs] at h; cases h
    | true =>
      rw [hs] at h
      have := of_beqT hs
      subst this
      obtain ⟨e, rfl⟩ := H.pure_some h
      cases e
      refine ⟨((t.data.toList.map fun x => Value.int .u8 x.toNat).take (m * 1)), RelL.take _ (RelL.closed ?_), ?_⟩
      · rw [List.all_eq_true]; intro y hy
        obtain ⟨z, _, rfl⟩ := List.mem_map.mp hy
        rfl
      · simp only [Builtin.firstCells]
        rw [Sem.run_pure]
        congr 1
        apply Array.ext'
        simp [ByteArray.extract, ByteArray.copySlice]
  | _ => cases h

theorem snd_copy {t e : TypeId} {ts : List TypeId} {s : Nat} {d x : Operand} {c : Call} (hop : o.op = .call c) (hc : c.callee = .builtin .copy) (hargs : c.args = #[d, x]) (ht : c.argTypes.toList = t :: ts) (hd : D d = true) (hx : D x = true)
    (hu : und ti t = some (.slice e)) (hs : cellsOf? ti e = some s)
    (h : aop G L env (.copy s (opd d) (opd x)) σ = some (v, σ')) : OpOut P ρ o μ w σ v σ' := by
  simp only [aop] at h
  cases hv : ev G env (opd d) with
  | none => rw [hv] at h; cases h
  | some dv =>
    have hr := hρ d hd _ hv
    generalize hq : ρ d = q at hr
    cases hvx : ev G env (opd x) with
    | none => rw [hv, hvx] at h; cases hr <;> cases h
    | some xv =>
      rw [hv, hvx] at h
      have hrx := hρ x hx _ hvx
      have hat : c.argTypes[0]? = some t := by rw [← Array.getElem?_toList, ht]; rfl
      have key : ∀ (sa sa' : Option Addr) (len cap' : Nat) (w' : World) (n : Nat) (new' : List Value), q = .slice sa' len cap' → (Builtin.lenOf (ρ x)).run P w = .ok n w → (Builtin.firstCells s (Nat.min n len) (ρ x)).run P w = .ok new'.toArray w →
          (match sa' with | some a => storeCells a new' | none => pure ()).run P w = .ok () w' → (execOp ρ o).run P w = .ok (.value (.int .i64 (Nat.min n len : Nat))) w' := by
        intro sa sa' len cap' w' n new' e1 e2 e3 e4
        subst e1
        cases sa' with
        | none =>
          simp only [Sem.run_pure] at e4; cases e4
          simp [execOp, hop, resolve, hc, hargs, invoke, builtin, hq, Builtin.copy_, hat, run_und T.info hu, e2, run_size T.info hs, e3, goInt]
        | some a => simp [execOp, hop, resolve, hc, hargs, invoke, builtin, hq, Builtin.copy_, hat, run_und T.info hu, e2, run_size T.info hs, e3, e4, goInt]
      cases hr with
      | slice0 =>
        obtain ⟨⟨n, new⟩, σ1, k1, k2⟩ := H.bind_some h
        obtain ⟨rfl, rfl⟩ := H.pure_some k2
        obtain ⟨rfl, g1, g2, _⟩ := run_src (P := P) ok k1 hrx
        obtain ⟨new', g3, g4⟩ := run_src_part (P := P) ok k1 hrx (Nat.min_le_left n 0)
        exact .pure ok (n := .value _) (key none none 0 0 w n new' rfl g1 g4 rfl) rfl (.int _ _)
      | lost =>
        obtain ⟨⟨n, new⟩, σ1, k1, k2⟩ := H.bind_some h
        simp only at k2
        have hm : Nat.min n 0 = 0 := Nat.min_zero n
        rw [hm] at k2
        obtain ⟨rfl, rfl⟩ := H.pure_some k2
        obtain ⟨rfl, g1, g2, _⟩ := run_src (P := P) ok k1 hrx
        obtain ⟨new', g3, g4⟩ := run_src_part (P := P) ok k1 hrx (Nat.min_le_left n 0)
        have hm' : min n 0 = 0 := hm
        rw [hm', Nat.zero_mul, List.take_zero] at g3
        cases g3
        have := key none _ 0 _ w n [] rfl g1 g4 rfl
        rw [hm] at this
        exact .pure ok (n := .value _) this rfl (.int _ _)
      | slice e1 e2 e3 e4 e5 e6 =>
        rename_i b oo B lim tag len cap cap'
        obtain ⟨⟨n, new⟩, σ1, k1, k2⟩ := H.bind_some h
        simp only at k2
        obtain ⟨rfl, g1, g2, _⟩ := run_src (P := P) ok k1 hrx
        obtain ⟨new', g3, g4⟩ := run_src_part (P := P) ok k1 hrx (Nat.min_le_left n len)
        cases h0 : Nat.beq (Nat.min n len) 0 with
        | true =>
          rw [h0] at k2
          obtain ⟨rfl, rfl⟩ := H.pure_some k2
          have hm' : min n len = 0 := of_beqT h0
          rw [hm', Nat.zero_mul, List.take_zero] at g3
          cases g3
          exact .pure ok (n := .value _) (key none _ len _ w n [] rfl g1 g4 rfl) rfl (.int _ _)
        | false =>
          rw [h0] at k2
          cases hb : Nat.beq (tag / 2) s with
          | false => rw [hb] at k2; cases k2
          | true =>
            rw [hb] at k2
            obtain ⟨u, σ2, k3, k4⟩ := H.bind_some k2
            obtain ⟨rfl, rfl⟩ := H.pure_some k4
            obtain ⟨w', r1, r2, r3⟩ := run_writes (P := P) ok k3 e1 g3
            exact ⟨.value _, w', μ, _, _, key none _ len _ w' n new' rfl g1 g4 r1, r2, rfl, .int _ _, r3⟩
      | _ => cases h
end
end Go.Am

namespace Go.Am
section
variable {P : Program} {ρ : Operand → Value} {o : Oper} {μ : Mp} {w : World} {σ σ' : St} {v : Value} {G : GT} {L : TypeId → Nat → Nat → TypeId → Bool} {env : Env} {D : Operand → Bool}
variable {ti : TypeId → Option TypeInfo} {sk : TypeId → Bool}
variable (T : TOk P ti sk) (hρ : OpdRel D G env μ ρ) (ok : Ok μ w σ)
include T hρ ok

theorem snd_build_arr {t e : TypeId} {n s : Nat} {parts : Array (Nat × Operand)} {z : List Value} (hop : o.op = .build t parts) (hok : parts.toList.all (fun p => D p.2) = true)
    (hu : und ti t = some (.array n e)) (hz : zeroCells? ti t = some z) (hs : cellsOf? ti e = some s)
    (h : aop G L env (.build z (elemParts s parts.toList)) σ = some (v, σ')) : OpOut P ρ o μ w σ v σ' := by
  obtain ⟨zv, hz1, hz2, hz3⟩ := zeroCells_spec hz
  obtain ⟨c, σ1, k1, k2⟩ := H.bind_some h
  obtain ⟨h1, rfl⟩ := H.opt_some k1
  obtain ⟨rfl, rfl⟩ := H.pure_some k2
  have hlen : ∀ (ps : List (Nat × Operand)), ps.length = (elemParts s ps).length ∧
      ∀ (j : Nat) p', (elemParts s ps)[j]? = some p' → ∃ p, ps[j]? = some p ∧ (fun i => some (i * s, s)) p.1 = some (p'.1, p'.2.1) ∧ p'.2.2 = opd p.2 := by
    intro ps
    induction ps with
    | nil => exact ⟨rfl, fun j p' hj => by simp [elemParts] at hj⟩
    | cons p ps ih =>
      refine ⟨by simp [elemParts, ih.1], fun j p' hj => ?_⟩
      cases j with
      | zero => simp [elemParts] at hj; subst hj; exact ⟨p, rfl, rfl, rfl⟩
      | succ j => simpa using ih.2 j p' (by simpa [elemParts] using hj)
  obtain ⟨e1, e2⟩ := hlen parts.toList
  obtain ⟨c', g1, g2⟩ := fill_rel (place := fun i => some (i * s, s)) hρ parts.toList _ hok e2 e1 h1 (RelL.closed hz3)
  refine .pure ok (n := .value (.agg ⟨c'⟩)) ?_ rfl (.agg g2)
  have hzc : zv.cells = ⟨z⟩ := by rw [← hz2]
  have hparts : (parts.map fun (i, x) => (i, ρ x)).toList = parts.toList.map fun p => (p.1, ρ p.2) := by simp
  simp only [execOp, hop, Instr.build, Sem.run_bind, run_zero T.info hz1, Result.andThen, run_und T.info hu, run_size T.info hs, hparts, hzc]
  first | (rw [g1]; rfl) | (simp only [g1]; rfl) | skip

theorem aop_sound (hL : ∀ e n o u, L e n o u = true → liesAt P P.depth e (n / P.cellsOf e) o u 1 = true) (hok : o.op.operands.all D = true) (h : aop G L env (compOp ti sk o.op) σ = some (v, σ')) : OpOut P ρ o μ w σ v σ' := by
  have hti := T.info
  generalize hop : o.op = op at h hok
  have bad : ∀ {x : Prop}, aop G L env .bad σ = some (v, σ') → x := fun h => by cases h
  cases op with
  | move x => exact snd_mv hρ ok (.inl hop) (by simpa [Op.operands] using hok) h
  | assign x => exact snd_mv hρ ok (.inr hop) (by simpa [Op.operands] using hok) h
  | pick c a b =>
    simp [Op.operands] at hok
    exact snd_pick hρ ok hop hok.1 hok.2.1 hok.2.2 h
  | alloc e =>
    simp only [compOp] at h
    cases hz : zeroCells? ti e with
    | none => rw [hz] at h; exact bad h
    | some z => rw [hz] at h; exact snd_alloc ok hti hop hz h
  | box e x =>
    simp [Op.operands] at hok
    exact snd_box hρ ok hop hok h
  | build t parts =>
    have hok' : parts.toList.all (fun p => D p.2) = true := by
      simp [Op.operands] at hok ⊢; exact hok
    simp only [compOp] at h
    cases hu : und ti t with
    | none => rw [hu] at h; exact bad h
    | some d =>
      cases hz : zeroCells? ti t with
      | none => rw [hu, hz] at h; cases d <;> exact bad h
      | some z =>
        rw [hu, hz] at h
        cases d with
        | struct fs =>
          simp only at h
          cases hall : fs.toList.all (fun f => (cellsOf? ti f.type).isSome) with
          | false => rw [hall] at h; exact bad h
          | true =>
            rw [hall] at h
            cases hl : fieldParts ti fs.toList parts.toList with
            | none => rw [hl] at h; exact bad h
            | some l => rw [hl] at h; exact snd_build_struct hρ ok T hop hok' hu hz hall hl h
        | array n e =>
          simp only at h
          cases hs : cellsOf? ti e with
          | none => rw [hs] at h; exact bad h
          | some s => rw [hs] at h; exact snd_build_arr T hρ ok hop hok' hu hz hs h
        | _ => exact bad h
  | buildSlice t n parts =>
    have hok' : parts.toList.all (fun p => D p.2) = true := by
      simp [Op.operands] at hok ⊢; exact hok
    simp only [compOp] at h
    cases hu : und ti t with
    | none => rw [hu] at h; exact bad h
    | some d =>
      rw [hu] at h
      cases d with
      | slice e =>
        simp only at h
        cases hs : cellsOf? ti e with
        | none => rw [hs] at h; exact bad h
        | some s =>
          cases hz : zeroCells? ti e with
          | none => rw [hs, hz] at h; exact bad h
          | some z =>
            rw [hs, hz] at h
            simp only at h
            cases hb : (Nat.ble (n * s) 16777216 && Nat.beq z.length s && Nat.ble 1 s) with
            | false => rw [hb] at h; exact bad h
            | true =>
              rw [hb] at h
              simp only [Bool.and_eq_true] at hb
              exact snd_bslice hρ ok T hop hok' hu hs hz (of_bleT hb.1.1) (of_beqT hb.1.2) (of_bleT hb.2) h
      | _ => exact bad h
  | load t x =>
    simp [Op.operands] at hok
    simp only [compOp] at h
    cases ha : aggOf ti t with
    | none => rw [ha] at h; exact bad h
    | some a =>
      cases hc : cellsOf? ti t with
      | none =>
        rw [ha, hc] at h
        cases a with
        | true => exact bad h
        | false => exact snd_load hρ ok hti hop hok (.inr ⟨ha, rfl⟩) h
      | some n =>
        rw [ha, hc] at h
        cases a with
        | true => exact snd_load hρ ok hti hop hok (.inl ⟨ha, n, hc, rfl⟩) h
        | false => exact snd_load hρ ok hti hop hok (.inr ⟨ha, rfl⟩) h
  | store t a x =>
    simp [Op.operands] at hok
    simp only [compOp] at h
    cases hc : cellsOf? ti t with
    | none => rw [hc] at h; exact bad h
    | some n => rw [hc] at h; exact snd_store hρ ok hti hop hok.1 hok.2 hc h
  | nilCheck x =>
    simp [Op.operands] at hok
    exact snd_nilchk hρ ok hop hok h
  | binOp op t x y t' =>
    simp [Op.operands] at hok
    have hbin : aop G L env (.bin op (opd x) (opd y)) σ = some (v, σ') → OpOut P ρ o μ w σ v σ' := fun h => snd_bin hρ ok hop hok.1 hok.2 h
    have heq : ∀ neg : Bool, ((op = .eql ∧ neg = false) ∨ (op = .neq ∧ neg = true)) → aop G L env (Option.getD (dflt := .bad) (match und ti t with
      | some (.int _) | some .string => some (.bin op (opd x) (opd y))
      | _ => bif eqBad (eqShape ti sk 20 t) then none else some (.eq neg (eqShape ti sk 20 t) (opd x) (opd y)))) σ = some (v, σ') → OpOut P ρ o μ w σ v σ' := by
      clear h
      intro neg ho h
      have key : (∀ k, und ti t ≠ some (.int k)) → und ti t ≠ some .string → aop G L env (Option.getD (dflt := .bad) (bif eqBad (eqShape ti sk 20 t) then none else some (.eq neg (eqShape ti sk 20 t) (opd x) (opd y)))) σ = some (v, σ') → OpOut P ρ o μ w σ v σ' := by
        intro k1 k2 h
        cases hb : eqBad (eqShape ti sk 20 t) with
        | true => rw [hb] at h; exact bad h
        | false =>
          rw [hb] at h
          exact snd_eq T hρ ok hop ho hok.1 hok.2 k1 k2 h
      cases hu : und ti t with
      | none => rw [hu] at h; exact key (by rw [hu]; simp) (by rw [hu]; simp) h
      | some d =>
        rw [hu] at h
        cases d with
        | int k => exact hbin h
        | string => exact hbin h
        | _ => exact key (by rw [hu]; simp) (by rw [hu]; simp) h
    cases op with
    | eql => exact heq false (.inl ⟨rfl, rfl⟩) h
    | neq => exact heq true (.inr ⟨rfl, rfl⟩) h
    | _ => exact hbin h
  | unOp op t x =>
    simp [Op.operands] at hok
    exact snd_un hρ ok hop hok h
  | convert s d x =>
    simp [Op.operands] at hok
    simp only [compOp] at h
    cases hs : und ti s with
    | none => rw [hs] at h; exact bad h
    | some a =>
      cases hd : und ti d with
      | none => rw [hs, hd] at h; cases a <;> exact bad h
      | some b =>
        rw [hs, hd] at h
        cases a with
        | pointer e =>
          cases b with
          | unsafePointer =>
            simp only at h
            cases hc : cellsOf? ti e with
            | none => rw [hc] at h; exact bad h
            | some n =>
              rw [hc] at h
              cases n with
              | zero => exact bad h
              | succ n => exact snd_toUnsafe T hρ ok hop hok hs hd hc (by omega) h
          | _ => exact bad h
        | unsafePointer =>
          cases b with
          | pointer e =>
            simp only at h
            cases hc : cellsOf? ti e with
            | none => rw [hc] at h; exact bad h
            | some n =>
              rw [hc] at h
              cases n with
              | zero => exact bad h
              | succ n => exact snd_ofUnsafe T hρ ok hL hop hok hs hd hc (by omega) h
          | _ => exact bad h
        | int j =>
          cases b with
          | int k => exact snd_conv_int T hρ ok hop hok hs hd h
          | _ => exact bad h
        | string =>
          cases b with
          | string => exact snd_conv_str T hρ ok hop hok hs hd h
          | slice e =>
            simp only at h
            cases he : und ti e with
            | none => rw [he] at h; exact bad h
            | some q =>
              rw [he] at h
              cases q with
              | int k => cases k <;> first | exact snd_conv_s2b T hρ ok hop hok hs hd he h | exact bad h
              | _ => exact bad h
          | _ => exact bad h
        | slice e =>
          cases b with
          | string =>
            simp only at h
            cases he : und ti e with
            | none => rw [he] at h; exact bad h
            | some q =>
              rw [he] at h
              cases q with
              | int k => cases k <;> first | exact snd_conv_b2s T hρ ok hop hok hs hd he h | exact bad h
              | _ => exact bad h
          | _ => exact bad h
        | _ => exact bad h
  | makeFunc fn f c =>
    simp only [Op.operands, Array.all_append, Bool.and_eq_true] at hok
    cases fn with
    | func g => exact snd_mkfun hρ ok hop (by simpa using hok.1) (by simpa using hok.2) h
    | _ => exact bad h
  | makeMap t r =>
    cases r with
    | none => exact snd_mkmap ok hop h
    | some r => exact bad h
  | lookup t m k okk =>
    simp [Op.operands] at hok
    simp only [compOp] at h
    cases hu : und ti t with
    | none => rw [hu] at h; exact bad h
    | some d =>
      rw [hu] at h
      cases d with
      | map kt e =>
        simp only at h
        cases hz : zeroOf? ti e with
        | none => rw [hz] at h; exact bad h
        | some z =>
          rw [hz] at h
          simp only at h
          cases hc : closedC z with
          | false => rw [hc] at h; exact bad h
          | true => rw [hc] at h; exact snd_lookup hρ ok T hop hok.1 hok.2 hu hz hc h
      | _ => exact bad h
  | mapUpdate t m k x =>
    simp [Op.operands] at hok
    simp only [compOp] at h
    cases hu : und ti t with
    | none => rw [hu] at h; exact bad h
    | some d =>
      rw [hu] at h
      cases d with
      | map kt e => exact snd_mapupd hρ ok T hop hok.1 hok.2.1 hok.2.2 hu h
      | _ => exact bad h
  | makeSlice t l c =>
    simp [Op.operands] at hok
    simp only [compOp] at h
    cases hu : und ti t with
    | none => rw [hu] at h; exact bad h
    | some d =>
      rw [hu] at h
      cases d with
      | slice e =>
        simp only at h
        cases hi : ti e with
        | none => rw [hi] at h; exact bad h
        | some i =>
          cases hz : zeroCells? ti e with
          | none => rw [hi, hz] at h; exact bad h
          | some z =>
            rw [hi, hz] at h
            simp only at h
            cases hb : (Nat.beq z.length i.size && Nat.ble 1 i.size) with
            | false => rw [hb] at h; exact bad h
            | true =>
              rw [hb] at h
              simp only [Bool.and_eq_true] at hb
              exact snd_mkslice hρ ok T hop hok.1 hok.2 hu hi hz (of_beqT hb.1) (of_bleT hb.2) h
      | _ => exact bad h
  | slice t x lo hi mx =>
    have k1 : D x = true := by simp [Op.operands] at hok; exact hok.1.1
    have kl : ∀ y, lo = some y → D y = true := fun y e => by subst e; simp [Op.operands] at hok; exact hok.1.1.2
    have kh : ∀ y, hi = some y → D y = true := fun y e => by subst e; simp [Op.operands] at hok; exact hok.1.2.2
    have km : ∀ y, mx = some y → D y = true := fun y e => by subst e; simp [Op.operands] at hok; exact hok.2
    simp only [compOp] at h
    cases hu : und ti t with
    | none => rw [hu] at h; exact bad h
    | some d =>
      rw [hu] at h
      cases d with
      | string => exact snd_slc_str hρ ok T hop k1 kl kh km hu h
      | slice e =>
        simp only at h
        cases hs : cellsOf? ti e with
        | none => rw [hs] at h; exact bad h
        | some s => rw [hs] at h; exact snd_slc_slice hρ ok T hop k1 kl kh km hu hs h
      | array n e =>
        simp only at h
        cases hs : cellsOf? ti e with
        | none => rw [hs] at h; exact bad h
        | some s => rw [hs] at h; exact snd_slc_arr hρ ok T (at_ := t) hop k1 kl kh km (.inl hu) hs h
      | pointer a =>
        simp only at h
        cases hu2 : und ti a with
        | none => rw [hu2] at h; exact bad h
        | some d2 =>
          rw [hu2] at h
          cases d2 with
          | array n e =>
            simp only at h
            cases hs : cellsOf? ti e with
            | none => rw [hs] at h; exact bad h
            | some s => rw [hs] at h; exact snd_slc_arr hρ ok T hop k1 kl kh km (.inr ⟨hu, hu2⟩) hs h
          | _ => exact bad h
      | _ => exact bad h
  | fieldAddr t x f =>
    simp [Op.operands] at hok
    simp only [compOp] at h
    cases hu : und ti t with
    | none => rw [hu] at h; exact bad h
    | some d =>
      rw [hu] at h
      cases d with
      | struct fs =>
        simp only at h
        cases hf : fs[f]? with
        | none => rw [hf] at h; exact bad h
        | some fd =>
          rw [hf] at h
          simp only at h
          cases hc : cellsOf? ti fd.type with
          | none => rw [hc] at h; exact bad h
          | some n =>
            rw [hc] at h
            cases n with
            | zero => exact bad h
            | succ n => exact snd_faddr hρ ok hti hop hok hu hf hc h
      | _ => exact bad h
  | field t x f =>
    simp [Op.operands] at hok
    simp only [compOp] at h
    cases hu : und ti t with
    | none => rw [hu] at h; exact bad h
    | some d =>
      rw [hu] at h
      cases d with
      | struct fs =>
        simp only at h
        cases hf : fs[f]? with
        | none => rw [hf] at h; exact bad h
        | some fd =>
          rw [hf] at h
          simp only at h
          cases hc : cellsOf? ti fd.type with
          | none => rw [hc] at h; exact bad h
          | some n =>
            cases ha : aggOf ti fd.type with
            | none => rw [hc, ha] at h; exact bad h
            | some a => rw [hc, ha] at h; exact snd_fld hρ ok hti hop hok hu hf hc ha h
      | _ => exact bad h
  | indexAddr t x i =>
    simp [Op.operands] at hok
    simp only [compOp] at h
    cases hu : und ti t with
    | none => rw [hu] at h; exact bad h
    | some d =>
      rw [hu] at h
      cases d with
      | slice e =>
        simp only at h
        cases hs : cellsOf? ti e with
        | none => rw [hs] at h; exact bad h
        | some s => rw [hs] at h; exact snd_iaddrS hρ ok hti hop hok.1 hok.2 hu hs h
      | array n e =>
        simp only at h
        cases hs : cellsOf? ti e with
        | none => rw [hs] at h; exact bad h
        | some s => rw [hs] at h; exact snd_iaddrA hρ ok hti hop hok.1 hok.2 hu hs h
      | _ => exact bad h
  | index t x i =>
    simp [Op.operands] at hok
    simp only [compOp] at h
    cases hu : und ti t with
    | none => rw [hu] at h; exact bad h
    | some d =>
      rw [hu] at h
      cases d with
      | string => exact snd_idxS hρ ok hti hop hok.1 hok.2 hu h
      | array n e =>
        simp only at h
        cases hs : cellsOf? ti e with
        | none => rw [hs] at h; exact bad h
        | some s =>
          cases ha : aggOf ti e with
          | none => rw [hs, ha] at h; exact bad h
          | some a => rw [hs, ha] at h; exact snd_idxA hρ ok T hop hok.1 hok.2 hu hs ha h
      | _ => exact bad h
  | extract x i =>
    simp [Op.operands] at hok
    exact snd_ext hρ ok hop hok h
  | call c =>
    obtain ⟨callee, args, argTypes⟩ := c
    cases callee with
    | value f => cases f <;> exact bad h
    | invoke r m => exact bad h
    | builtin b =>
      have hargs : args.toList.all D = true := by
        simp only [Op.operands, Call.operands] at hok; simpa using hok
      obtain ⟨args⟩ := args
      obtain ⟨argTypes⟩ := argTypes
      simp only at hargs
      simp only [compOp] at h
      cases b with
      | len =>
        match args, argTypes, h with
        | [x], [t], h =>
          simp at hargs
          simp only at h
          cases hu : und ti t with
          | none => rw [hu] at h; exact bad h
          | some d =>
            rw [hu] at h
            cases d with
            | string => exact snd_len hρ ok hti hop rfl rfl rfl hargs (.inl ⟨hu, rfl⟩) h
            | slice e => exact snd_len hρ ok hti hop rfl rfl rfl hargs (.inr (.inl ⟨e, hu, rfl⟩)) h
            | map a b => exact snd_len hρ ok hti hop rfl rfl rfl hargs (.inr (.inr ⟨a, b, hu, rfl⟩)) h
            | _ => exact bad h
        | [], _, h => exact bad h
        | _ :: _ :: _, _, h => exact bad h
        | [x], [], h => exact bad h
        | [x], _ :: _ :: _, h => exact bad h
      | cap =>
        match args, argTypes, h with
        | [x], [t], h =>
          simp at hargs
          simp only at h
          cases hu : und ti t with
          | none => rw [hu] at h; exact bad h
          | some d =>
            rw [hu] at h
            cases d with
            | slice e => exact snd_cap hρ ok T hop rfl rfl rfl hargs hu h
            | _ => exact bad h
        | [], _, h => exact bad h
        | _ :: _ :: _, _, h => exact bad h
        | [x], [], h => exact bad h
        | [x], _ :: _ :: _, h => exact bad h
      | append =>
        match args, argTypes, h with
        | [s, x], [t, t'], h =>
          simp at hargs
          simp only at h
          cases hu : und ti t with
          | none => rw [hu] at h; exact bad h
          | some d =>
            cases hu2 : und ti t' with
            | none => rw [hu, hu2] at h; cases d <;> exact bad h
            | some d2 =>
              rw [hu, hu2] at h
              cases d with
              | slice e =>
                have hcom : ∀ k : TypeInfo → List Value → AOp, aop G L env (Option.getD (dflt := .bad) (match ti e, zeroCells? ti e with
                    | some i, some z => bif Nat.beq z.length i.size && Nat.ble 1 i.size then some (k i z) else none
                    | _, _ => none)) σ = some (v, σ') → ∃ i z, ti e = some i ∧ zeroCells? ti e = some z ∧ z.length = i.size ∧ 1 ≤ i.size ∧ aop G L env (k i z) σ = some (v, σ') := by
                  clear h
                  intro k h
                  cases hi : ti e with
                  | none => rw [hi] at h; exact bad h
                  | some i =>
                    cases hz : zeroCells? ti e with
                    | none => rw [hi, hz] at h; exact bad h
                    | some z =>
                      rw [hi, hz] at h
                      simp only at h
                      cases hb : (Nat.beq z.length i.size && Nat.ble 1 i.size) with
                      | false => rw [hb] at h; exact bad h
                      | true =>
                        rw [hb] at h
                        simp only [Bool.and_eq_true] at hb
                        exact ⟨i, z, rfl, rfl, of_beqT hb.1, of_bleT hb.2, h⟩
                cases d2 with
                | slice e2 =>
                  obtain ⟨i, z, q1, q2, q3, q4, q5⟩ := hcom (fun i _ => .append e i.size i.bytes (opd s) (opd x)) h
                  exact snd_append T hρ ok hop rfl rfl rfl hargs.1 hargs.2 hu hu2 (by simp) q1 q2 q3 q4 q5
                | string =>
                  obtain ⟨i, z, q1, q2, q3, q4, q5⟩ := hcom (fun i _ => .append e i.size i.bytes (opd s) (opd x)) h
                  exact snd_append T hρ ok hop rfl rfl rfl hargs.1 hargs.2 hu hu2 (by simp) q1 q2 q3 q4 q5
                | int k =>
                  obtain ⟨i, z, q1, q2, q3, q4, q5⟩ := hcom (fun i z => .appendz e i.size i.bytes z (opd s) (opd x)) h
                  exact snd_appendz T hρ ok hop rfl rfl rfl hargs.1 hargs.2 hu hu2 q1 q2 q3 q4 q5
                | _ => exact bad h
              | _ => exact bad h
        | [], _, h => exact bad h
        | [_], _, h => exact bad h
        | _ :: _ :: _ :: _, _, h => exact bad h
        | [s, x], [], h => exact bad h
        | [s, x], [_], h => exact bad h
        | [s, x], _ :: _ :: _ :: _, h => exact bad h
      | copy =>
        match args, argTypes, h with
        | [s, x], t :: ts, h =>
          simp at hargs
          simp only at h
          cases hu : und ti t with
          | none => rw [hu] at h; exact bad h
          | some d =>
            rw [hu] at h
            cases d with
            | slice e =>
              simp only at h
              cases hs : cellsOf? ti e with
              | none => rw [hs] at h; exact bad h
              | some n => rw [hs] at h; exact snd_copy T hρ ok hop rfl rfl rfl hargs.1 hargs.2 hu hs h
            | _ => exact bad h
        | [], _, h => exact bad h
        | [_], _, h => exact bad h
        | _ :: _ :: _ :: _, _, h => exact bad h
        | [s, x], [], h => exact bad h
      | unsafeSliceData =>
        match args, h with
        | [x], h =>
          simp at hargs
          exact snd_sliceData T hρ ok hop rfl rfl hargs h
        | [], h => exact bad h
        | _ :: _ :: _, h => exact bad h
      | unsafeString =>
        match args, argTypes, h with
        | [s, x], [t, t'], h =>
          simp at hargs
          simp only at h
          cases hu : und ti t with
          | none => rw [hu] at h; exact bad h
          | some d =>
            rw [hu] at h
            cases d with
            | pointer e =>
              simp only at h
              cases hu2 : und ti e with
              | none => rw [hu2] at h; exact bad h
              | some d2 =>
                rw [hu2] at h
                cases d2 with
                | int k =>
                  cases k <;> first | exact bad h | skip
                  simp only at h
                  cases hc : cellsOf? ti e with
                  | none => rw [hc] at h; exact bad h
                  | some m =>
                    rw [hc] at h
                    match m, hc, h with
                    | 0, hc, h => exact bad h
                    | 1, hc, h => exact snd_unsafeStr T hρ ok hop rfl rfl rfl hargs.1 hargs.2 hu hu2 hc h
                    | _ + 2, hc, h => exact bad h
                | _ => exact bad h
            | _ => exact bad h
        | [], _, h => exact bad h
        | [_], _, h => exact bad h
        | _ :: _ :: _ :: _, _, h => exact bad h
        | [s, x], [], h => exact bad h
        | [s, x], [_], h => exact bad h
        | [s, x], _ :: _ :: _ :: _, h => exact bad h
      | min => exact snd_minmax hρ ok (mx := false) hop rfl hargs h
      | max => exact snd_minmax hρ ok (mx := true) hop rfl hargs h
      | _ => exact bad h
  | _ => exact bad h
end
end Go.Am

namespace Go.Am
section
variable {P : Program} {ti : TypeId → Option TypeInfo} {sk : TypeId → Bool} {X : Ctx} {call : CallT} {μ : Mp} {w : World} {σ σ' : St} {env : Env}

def GRel (G : GT) (μ : Mp) : Prop := ∀ g b, G g = some b → ∃ lim, μ b = some (g, lim)
theorem GRel.mono {G : GT} {μ μ' : Mp} (e : Ext μ μ') (h : GRel G μ) : GRel G μ' := fun g b hb => let ⟨lim, hl⟩ := h g b hb; ⟨lim, e _ _ hl⟩

def EnvRel (env : Env) (μ : Mp) (tmps : Array Value) : Prop := ∀ t v, env.get t = some v → t < tmps.size ∧ Rel μ v (tmps.getD t undef)
theorem EnvRel.mono {μ μ' : Mp} {tmps : Array Value} (e : Ext μ μ') (h : EnvRel env μ tmps) : EnvRel env μ' tmps := fun t v hv => ⟨(h t v hv).1, (h t v hv).2.mono e⟩

theorem EnvRel.opd {G : GT} {a : Act} (hg : GRel G μ) (h : EnvRel env μ a.tmps) : OpdRel okOpd G env μ a.eval := by
  intro x hx v hv
  cases x with
  | tmp t => exact (h t v hv).2
  | const c =>
    simp only [Go.Am.opd, ev, Option.some.injEq] at hv
    subst hv
    exact Rel.closedC hx
  | global g =>
    simp only [Go.Am.opd, ev] at hv
    cases hb : G g with
    | none => rw [hb] at hv; cases hv
    | some b =>
      rw [hb] at hv; cases hv
      obtain ⟨lim, hl⟩ := hg g b hb
      exact .ptr hl
  | func f =>
    simp only [Go.Am.opd, ev, Option.some.injEq] at hv
    subst hv
    exact .func .nil .nil

theorem EnvRel.put {a : Act} {dst : Option Nat} {v v' : Value} (h : EnvRel env μ a.tmps) (hd : ∀ d, dst = some d → d < a.tmps.size) (r : Rel μ v v') : EnvRel (putDst env dst v) μ (a.put dst v').tmps := by
  cases dst with
  | none => exact h
  | some d =>
    intro t u hu
    simp only [putDst] at hu
    rw [T.get_set] at hu
    have hdl := hd d rfl
    by_cases e : t = d
    · subst e
      rw [if_pos rfl] at hu; cases hu
      refine ⟨by simpa [Act.put] using hdl, ?_⟩
      simpa [Act.put, Array.getD, hdl] using r
    · rw [if_neg e] at hu
      obtain ⟨a1, a2⟩ := h t u hu
      refine ⟨by simpa [Act.put] using a1, ?_⟩
      have : (a.tmps.setIfInBounds d v').getD t undef = a.tmps.getD t undef := by
        rw [Array.getD_eq_getD_getElem?, Array.getD_eq_getD_getElem?, Array.getElem?_setIfInBounds_ne (fun h => e h.symm)]
      simpa [Act.put, this] using a2

theorem put_size (a : Act) (dst : Option Nat) (v : Value) : (a.put dst v).tmps.size = a.tmps.size := by cases dst <;> simp [Act.put]

/-- a call's soundness -/
def CallSound (P : Program) (X : Ctx) (call : CallT) : Prop :=
  ∀ f vs σ v σ' ids, call f vs σ = some (v, σ', ids) → ∀ μ w (args : Array Value), Ok μ w σ → GRel X.G μ → RelL μ vs args.toList →
    ∀ (o : Oper) (a : Act) (next : Act → World → Prop) (Q : Exit → Act → World → Prop),
      (∀ μ' w' v' M, Step M μ w σ μ' w' σ' → Rel μ' v v' → next (a.put o.dst v') w') → o.upon P a next Q ((callFunc f args).run P w)

theorem opOf_cases {o : Oper} {x : AOp} (h : opOf ti sk o = x) : x = .bad ∨ (o.op.operands.all okOpd = true ∧ compOp ti sk o.op = x) := by
  unfold opOf at h
  cases hk : o.op.operands.all okOpd with
  | true => rw [hk] at h; exact .inr ⟨rfl, h⟩
  | false => rw [hk] at h; exact .inl h.symm

theorem map_getD_ne {α : Type} {x : Option α} {f : α → AOp} {y : AOp} (hf : ∀ a, f a ≠ y) (hb : AOp.bad ≠ y) : (x.map f).getD .bad ≠ y := by
  cases x with
  | none => exact hb
  | some a => exact hf a

/-- only a call of a value is a call -/
theorem call_shape {op : Op} {y : AOp} (hy : (∃ f args, y = .call f args) ∨ ∃ f args, y = .callv f args) (h : compOp ti sk op = y) : ∃ c x, op = .call c ∧ c.callee = .value x ∧ y = (match x with | .func f => .call f (opds c.args) | x => .callv (opd x) (opds c.args)) := by
  have hb : AOp.bad ≠ y := by rcases hy with ⟨f, l, rfl⟩ | ⟨f, l, rfl⟩ <;> simp
  cases op with
  | call c =>
    obtain ⟨callee, cargs, argTypes⟩ := c
    cases callee with
    | value x => exact ⟨_, x, rfl, rfl, by cases x <;> exact h.symm⟩
    | invoke r m => exact absurd h hb
    | builtin b =>
      exfalso
      revert h
      simp only [compOp, cond_eq_ite]
      repeat' split
      all_goals first | exact hb | (rcases hy with ⟨f, l, rfl⟩ | ⟨f, l, rfl⟩ <;> simp; done) | (apply map_getD_ne _ hb; intro a; rcases hy with ⟨f, l, rfl⟩ | ⟨f, l, rfl⟩ <;> simp)
  | makeMap t r => cases r with
    | none => rcases hy with ⟨f, l, rfl⟩ | ⟨f, l, rfl⟩ <;> cases h
    | some r => exact absurd h hb
  | _ =>
    exfalso
    revert h
    simp only [compOp, cond_eq_ite]
    repeat' split
    all_goals first | exact hb | (rcases hy with ⟨f, l, rfl⟩ | ⟨f, l, rfl⟩ <;> simp; done) | (apply map_getD_ne _ hb; intro a; rcases hy with ⟨f, l, rfl⟩ | ⟨f, l, rfl⟩ <;> simp)

/-- one operation -/
theorem runOp_sound (T : TOk P ti sk) (hL : ∀ e n o u, X.L e n o u = true → liesAt P P.depth e (n / P.cellsOf e) o u 1 = true) (hc : CallSound P X call)
    {o : Oper} {a : Act} {v : Value} {ids : List Nat} {D : Operand → Bool} (ok : Ok μ w σ) (hg : GRel X.G μ) (hD : o.op.operands.all okOpd = true → o.op.operands.all D = true) (hρ : OpdRel D X.G env μ a.eval) (h : runOp X call env (opOf ti sk o) σ = some (v, σ', ids))
    {next : Act → World → Prop} {Q : Exit → Act → World → Prop}
    (hn : ∀ μ' w' v' M, Step M μ w σ μ' w' σ' → Rel μ' v v' → ((loudness (opOf ti sk o) = 3) → ∀ b, M b → σ'.lo = min b σ.lo) → next (a.put o.dst v') w') : o.wp P a w next Q := by
  rcases opOf_cases (ti := ti) (sk := sk) (o := o) rfl with hb | ⟨hok, hcomp⟩
  · rw [hb] at h; simp [runOp, aop, H.fail] at h
  have hok := hD hok
  have haop : ∀ (hh : aop X.G X.L env (compOp ti sk o.op) σ = some (v, σ')), o.wp P a w next Q := by
    intro hh
    obtain ⟨n, w', μ', M, v', r1, r2, r3, r4, r5⟩ := aop_sound T hρ ok hL hok hh
    unfold Oper.wp
    rw [r1]
    cases n with
    | value u => simp only [nv, Option.some.injEq] at r3; subst r3; exact hn μ' w' u M r2 r4 (fun _ => r5)
    | skip => simp only [nv, Option.some.injEq] at r3; subst r3; exact hn μ' w' undef M r2 r4 (fun _ => r5)
    | _ => simp [nv] at r3
  rw [← hcomp] at h
  generalize hop : compOp ti sk o.op = x at h hcomp haop
  have hl3 := hcomp
  unfold runOp at h
  split at h
  · -- a call of a known function
    rename_i f args
    obtain ⟨c, x', h1, h2, h3⟩ := call_shape (.inl ⟨f, args, rfl⟩) hop
    cases x' with
    | func g =>
      simp only [AOp.call.injEq] at h3
      obtain ⟨rfl, rfl⟩ := h3
      cases he' : evs X.G env (opds c.args) with
      | none => rw [he'] at h; cases h
      | some vs =>
        rw [he'] at h
        simp only at h
        have hargs : c.args.toList.all D = true := by
          rw [h1] at hok
          simp only [Op.operands, Call.operands, h2, Array.all_append, Bool.and_eq_true] at hok
          simpa using hok.2
        have hr := hρ.list hargs he'
        have hx : (execOp a.eval o).run P w = (callFunc f (c.args.map a.eval)).run P w := by
          simp [execOp, h1, resolve, h2, Deferred.ofValue, invoke, Act.eval]
        unfold Oper.wp
        rw [hx]
        exact hc f vs σ v σ' ids h μ w _ ok hg (by simpa using hr) o a next Q (fun μ' w' v' M st r => hn μ' w' v' M st r (fun hl => by rw [← hl3] at hl; simp [loudness] at hl))
    | _ => simp at h3
  · -- a call of a function value
    rename_i fo args
    obtain ⟨c, x', h1, h2, h3⟩ := call_shape (.inr ⟨fo, args, rfl⟩) hop
    have h3 : fo = opd x' ∧ args = opds c.args := by
      cases x' with
      | func g => simp at h3
      | _ => simpa using h3
    obtain ⟨rfl, rfl⟩ := h3
    have hargs : D x' = true ∧ c.args.toList.all D = true := by
      rw [h1] at hok
      simp only [Op.operands, Call.operands, h2, Array.all_append, Bool.and_eq_true] at hok
      exact ⟨by simpa using hok.1, by simpa using hok.2⟩
    cases hv : ev X.G env (opd x') with
    | none => rw [hv] at h; cases h
    | some fv =>
      cases he' : evs X.G env (opds c.args) with
      | none => rw [hv, he'] at h; split at h <;> simp_all
      | some vs =>
        rw [hv, he'] at h
        have hr := hρ.list hargs.2 he'
        have hrf := hρ x' hargs.1 _ hv
        generalize hq : a.eval x' = q at hrf
        cases hrf with
        | func r1 r2 =>
          rename_i f xs ys us vs'
          simp only at h
          have hx : (execOp a.eval o).run P w = (callFunc f ((⟨ys⟩ ++ c.args.map a.eval) ++ ⟨vs'⟩)).run P w := by
            simp [execOp, h1, resolve, h2, Deferred.ofValue, invoke, hq]
          unfold Oper.wp
          rw [hx]
          exact hc f _ σ v σ' ids h μ w _ ok hg (by simpa using (r1.append hr).append r2) o a next Q (fun μ' w' v' M st r => hn μ' w' v' M st r (fun hl => by rw [← hl3] at hl; simp [loudness] at hl))
        | _ => cases h
  · split at h
    · rename_i v1 σ1 ha
      cases h
      exact haop ha
    · cases h

/-- a step whose writes are not told -/
def Went (μ : Mp) (w : World) (σ : St) (μ' : Mp) (w' : World) (σ' : St) : Prop := ∃ M, Step M μ w σ μ' w' σ'
theorem Went.refl (ok : Ok μ w σ) : Went μ w σ μ w σ := ⟨_, Step.refl ok⟩
theorem Went.trans {μ1 μ2 : Mp} {w1 w2 : World} {σ1 σ2 : St} (ok : Ok μ w σ) (h : Went μ w σ μ1 w1 σ1) (h' : Went μ1 w1 σ1 μ2 w2 σ2) : Went μ w σ μ2 w2 σ2 :=
  let ⟨_, a⟩ := h; let ⟨_, b⟩ := h'; ⟨_, a.trans ok b⟩
theorem Went.ok {μ' : Mp} {w' : World} (h : Went μ w σ μ' w' σ') : Ok μ' w' σ' := let ⟨_, a⟩ := h; a.ok
theorem Went.ext {μ' : Mp} {w' : World} (h : Went μ w σ μ' w' σ') (ok : Ok μ w σ) : Ext μ μ' := let ⟨_, a⟩ := h; a.ext ok

theorem guard_spec {ops : Array Oper} {tmps : Array Value} {o : Oper} {g : Option (Nat × Bool)} {b : Bool} (he : ∀ t b, g = some (t, b) → ∀ v, env.get t = some v → t < tmps.size ∧ Rel μ v (tmps.getD t undef)) (hg : guardOf ops o.guard = some g) (h : guardOk env g = some b) :
    Region.wanted o (yielded ops tmps) = b := by
  unfold guardOf at hg
  unfold Region.wanted
  cases hgo : o.guard with
  | none => rw [hgo] at hg; simp at hg; subst hg; simp [guardOk] at h; simp [h]
  | some jw =>
    obtain ⟨j, want⟩ := jw
    rw [hgo] at hg
    simp only at hg
    cases hd : (ops[j]?).bind (·.dst) with
    | none => rw [hd] at hg; cases hg
    | some d =>
      rw [hd] at hg; simp at hg; subst hg
      simp only [guardOk] at h
      cases hv : env.get d with
      | none => rw [hv] at h; cases h
      | some v =>
        rw [hv] at h
        obtain ⟨hlt, hr⟩ := he d want rfl v hv
        have hget : tmps[d]? = some (tmps.getD d undef) := by simp [Array.getD, hlt]
        generalize hq : tmps.getD d undef = q at hr hget
        cases hr with
        | bool t =>
          simp at h
          simp only [yielded, hd, Option.bind_some, hget]
          rw [← h]; cases t <;> cases want <;> rfl
        | tuple r =>
          simp at h; subst h
          simp only [yielded, hd, Option.bind_some, hget]
          rfl
        | _ => cases h

theorem runOps_sound (T : TOk P ti sk) (hL : ∀ e n o u, X.L e n o u = true → liesAt P P.depth e (n / P.cellsOf e) o u 1 = true) (hc : CallSound P X call)
    {ops : Array Oper} {Q : Exit → Act → World → Prop} {n : Nat} (hd : ∀ (i : Nat) o, ops[i]? = some o → ∀ d, o.dst = some d → d < n) :
    ∀ (l : List Oper) (i : Nat) (al : List AOper), ops.toList.drop i = l → compOpers ti sk ops l = some al →
    ∀ (μ : Mp) (w : World) (σ : St) (env env' : Env) (σ' : St) (a : Act), Ok μ w σ → GRel X.G μ → EnvRel env μ a.tmps → a.tmps.size = n → runOps X call al env σ = some (env', σ') →
      (∀ μ' w' a', Went μ w σ μ' w' σ' → EnvRel env' μ' a'.tmps → a'.tmps.size = n → a'.defers = a.defers → Q .normal a' w') →
      wpOps P ops Q ((List.range l.length).map (i + ·)) a w := by
  intro l
  induction l with
  | nil =>
    intro i al _ hal μ w σ env env' σ' a ok hg he hsz h hq
    simp [compOpers] at hal; subst hal
    simp [runOps] at h
    obtain ⟨rfl, rfl⟩ := h
    exact hq μ w a (.refl ok) he hsz rfl
  | cons o os ih =>
    intro i al hdrop hal μ w σ env env' σ' a ok hg he hsz h hq
    have hoi : ops[i]? = some o := by
      have : (ops.toList.drop i)[0]? = some o := by rw [hdrop]; rfl
      simpa using this
    have hdrop' : ops.toList.drop (i + 1) = os := by
      have := congrArg (List.drop 1) hdrop
      simpa [Nat.add_comm] using this
    simp only [compOpers] at hal
    cases hgd : guardOf ops o.guard with
    | none => rw [hgd] at hal; cases hal
    | some g =>
      cases hrest : compOpers ti sk ops os with
      | none => rw [hgd, hrest] at hal; cases hal
      | some rest =>
        rw [hgd, hrest] at hal; simp at hal; subst hal
        simp only [runOps] at h
        have hlist : (List.range (o :: os).length).map (i + ·) = i :: (List.range os.length).map (i + 1 + ·) := by
          simp only [List.length_cons, List.range_succ_eq_map, List.map_cons, List.map_map]
          congr 1
          apply List.map_congr_left
          intro x _; simp only [Function.comp]; omega
        rw [hlist]
        simp only [wpOps, hoi]
        have hdst : ∀ d, o.dst = some d → d < a.tmps.size := fun d h' => by rw [hsz]; exact hd i o hoi d h'
        cases hgo : guardOk env g with
        | none => rw [hgo] at h; cases h
        | some b =>
          have hw := guard_spec (fun t b _ v hv => he t v hv) hgd hgo
          rw [hgo] at h
          cases b with
          | false =>
            simp only at h
            rw [hw]
            simp only [Bool.false_eq_true, if_false]
            exact ih (i + 1) rest hdrop' hrest μ w σ _ env' σ' _ ok hg (he.put hdst (.tuple .nil)) (by rw [put_size]; exact hsz) h
              (fun μ' w' a' h1 h2 h3 h4 => hq μ' w' a' h1 h2 h3 (by rw [h4]; cases o.dst <;> rfl))
          | true =>
            simp only at h
            rw [hw]
            simp only [if_true]
            left
            cases hr : runOp X call env (opOf ti sk o) σ with
            | none => rw [hr] at h; cases h
            | some p =>
              obtain ⟨v, σ1, ids⟩ := p
              rw [hr] at h
              simp only at h
              refine runOp_sound T hL hc ok hg (fun h => h) (EnvRel.opd hg he) hr fun μ1 w1 v' M st r _ => ?_
              have hext := st.ext ok
              exact ih (i + 1) rest hdrop' hrest μ1 w1 σ1 _ env' σ' _ st.ok (hg.mono hext) ((he.mono hext).put hdst r) (by rw [put_size]; exact hsz) h
                (fun μ' w' a' h1 h2 h3 h4 => hq μ' w' a' (Went.trans ok ⟨M, st⟩ h1) h2 h3 (by rw [h4]; cases o.dst <;> rfl))
end
end Go.Am

