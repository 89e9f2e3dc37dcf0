/-
  The abstract machine: its definitions; values and states that are alike.
-/
import GoSem.Dispatch
import Derived.Laws.Entries
import Derived.Orders
import Derived.Laws.Cells
set_option linter.unusedVariables false
set_option linter.unusedSimpArgs false
set_option linter.unusedSectionVars false
set_option linter.unnecessarySimpa false
/- The abstract machine: definitions. -/
namespace Go.Am
noncomputable section

/-! #### a trie over numbers -/
inductive T (α : Type) where
  | nil
  | node (v : Option α) (l r : T α)

namespace T
variable {α : Type}
def get (t : T α) : Nat → Option α :=
  T.rec (motive := fun _ => Nat → Option α) (fun _ => none)
    (fun v _ _ gl gr k => Bool.rec (motive := fun _ => Option α) (Bool.rec (motive := fun _ => Option α) (gr (Nat.sub (Nat.div k 2) 1)) (gl (Nat.div k 2)) (Nat.beq (Nat.mod k 2) 1)) v (Nat.beq k 0)) t
theorem get_nil' (k : Nat) : (T.nil : T α).get k = none := rfl
theorem get_node (v : Option α) (l r : T α) (k : Nat) : (T.node v l r).get k = bif Nat.beq k 0 then v else bif Nat.beq (k % 2) 1 then l.get (k / 2) else r.get (k / 2 - 1) := by
  show Bool.rec (motive := fun _ => Option α) (Bool.rec (motive := fun _ => Option α) (r.get (k / 2 - 1)) (l.get (k / 2)) (Nat.beq (k % 2) 1)) v (Nat.beq k 0) = _
  cases Nat.beq k 0 <;> cases Nat.beq (k % 2) 1 <;> rfl
/-- one step of setting -/
def setS (self : Nat → T α → T α) (k : Nat) (v : Option α) (u : Option α) (l r : T α) : T α :=
  Bool.rec (motive := fun _ => T α) (Bool.rec (motive := fun _ => T α) (.node u l (self (Nat.sub (Nat.div k 2) 1) r)) (.node u (self (Nat.div k 2) l) r) (Nat.beq (Nat.mod k 2) 1)) (.node v l r) (Nat.beq k 0)
def setF (n : Nat) (k : Nat) (v : Option α) (t : T α) : T α :=
  Nat.rec (motive := fun _ => Nat → T α → T α) (fun _ t => t)
    (fun _ self k t => T.rec (motive := fun _ => T α) (setS self k v none .nil .nil) (fun u l r _ _ => setS self k v u l r) t) n k t
theorem setF_zero (k : Nat) (v : Option α) (t : T α) : setF 0 k v t = t := rfl
theorem setS_eq (n : Nat) (k : Nat) (v u : Option α) (l r : T α) : setS (fun k t => setF n k v t) k v u l r = bif Nat.beq k 0 then .node v l r else bif Nat.beq (k % 2) 1 then .node u (setF n (k / 2) v l) r else .node u l (setF n (k / 2 - 1) v r) := by
  show Bool.rec (motive := fun _ => T α) (Bool.rec (motive := fun _ => T α) (.node u l (setF n (k / 2 - 1) v r)) (.node u (setF n (k / 2) v l) r) (Nat.beq (k % 2) 1)) (.node v l r) (Nat.beq k 0) = _
  cases Nat.beq k 0 <;> cases Nat.beq (k % 2) 1 <;> rfl
theorem setF_nil (n : Nat) (k : Nat) (v : Option α) : setF (n + 1) k v .nil = bif Nat.beq k 0 then .node v .nil .nil else bif Nat.beq (k % 2) 1 then .node none (setF n (k / 2) v .nil) .nil else .node none .nil (setF n (k / 2 - 1) v .nil) := setS_eq n k v none .nil .nil
theorem setF_node (n : Nat) (k : Nat) (v u : Option α) (l r : T α) : setF (n + 1) k v (.node u l r) = bif Nat.beq k 0 then .node v l r else bif Nat.beq (k % 2) 1 then .node u (setF n (k / 2) v l) r else .node u l (setF n (k / 2 - 1) v r) := setS_eq n k v u l r
def set (t : T α) (k : Nat) (v : Option α) : T α := setF (k + 1) k v t
def ofListFrom (t : T α) (i : Nat) : List α → T α
  | [] => t
  | x :: xs => ofListFrom (t.set i (some x)) (i + 1) xs
def ofList (l : List α) : T α := ofListFrom .nil 0 l
end T

/-! #### blocks, states -/
inductive Blk where
  | cells (c : List Value) (ro : Nat) (ty : TypeId) (fl : Nat)
  | map (es : List MapEntry) (clock : Nat)

structure St where
  heap : T Blk
  next : Nat
  lo : Nat

abbrev Env := T Value
abbrev H (α : Type) := St → Option (α × St)

def big : Nat := 1000000000000

def H.pure {α : Type} (a : α) : H α := fun σ => some (a, σ)
def H.bind {α β : Type} (m : H α) (k : α → H β) : H β := fun σ => match m σ with | some (a, σ') => k a σ' | none => none
def H.fail {α : Type} : H α := fun _ => none
def H.opt {α : Type} (o : Option α) : H α := fun σ => match o with | some a => some (a, σ) | none => none
instance : Monad H where
  pure := H.pure
  bind := H.bind

def getBlk (b : Nat) : H Blk := fun σ => match σ.heap.get b with | some x => some (x, σ) | none => none
def getCells (b : Nat) : H (List Value × Nat × TypeId × Nat) := fun σ => match σ.heap.get b with | some (.cells c ro ty fl) => some ((c, ro, ty, fl), σ) | _ => none
def putBlk (b : Nat) (x : Blk) : H Unit := fun σ => some ((), { heap := σ.heap.set b (some x), next := σ.next, lo := bif Nat.ble b σ.lo then b else σ.lo })
def killBlk (b : Nat) : H Unit := fun σ => some ((), { heap := σ.heap.set b none, next := σ.next, lo := bif Nat.ble b σ.lo then b else σ.lo })
def newBlk (x : Blk) : H Nat := fun σ => some (σ.next, { heap := σ.heap.set σ.next (some x), next := σ.next + 1, lo := σ.lo })

/-! #### values -/
def vcells : Value → List Value
  | .agg cs => cs.toList
  | v => [v]
def scal : Value → Bool
  | .bool _ | .int .. | .string _ => true
  | _ => false
def binPair : Value → Value → Bool
  | .int .., .int .. => true
  | .string _, .string _ => true
  | _, _ => false
def eqOk : Value → Bool
  | .bool _ | .pointer _ | .slice .. | .func .. | .nilFunc | .agg _ => true
  | _ => false
def closed1 : Value → Bool
  | .bool _ | .int .. | .string _ | .pointer none | .slice none 0 0 | .map none | .nilFunc | .nilIface => true
  | _ => false
def closedC : Value → Bool
  | .agg cs => cs.toList.all closed1
  | .tuple cs => cs.toList.all closed1
  | v => closed1 v

def pureSem {α : Type} : Sem α → Option α
  | .pure a => some a
  | _ => none

def scalOf : Option Value → Option Value
  | some v => bif scal v then some v else none
  | none => none
def take? (l : List Value) (off n : Nat) : Option (List Value) :=
  bif Nat.ble (off + n) l.length then some ((l.drop off).take n) else none
def splice (l : List Value) (off : Nat) (new : List Value) : List Value := l.take off ++ new ++ l.drop (off + new.length)

def one (v : Value) : Bool := match v with | .agg _ | .tuple _ => false | _ => true
/-- the cells at an address -/
def readCells (a : Addr) (n : Nat) : H (List Value) := do
  let (c, _) ← getCells a.block
  H.opt (take? c a.off n)
def writeCells (a : Addr) (vs : List Value) : H Unit := do
  match vs with
  | [] => pure ()
  | _ =>
    let (c, ro, ty, fl) ← getCells a.block
    bif Nat.ble (a.off + vs.length) c.length && Nat.ble ro a.off && vs.all one then putBlk a.block (.cells (splice c a.off vs) ro ty fl) else H.fail

/-! #### equality shapes -/
inductive EqS where
  | sb | si | ss | ptr | slice | func | bad
  | nil
  | cons (off size : Nat) (agg : Bool) (s : EqS) (rest : EqS)

def partOf (cs : List Value) (off size : Nat) (agg : Bool) : Option Value :=
  bif agg then some (.agg ⟨(cs.drop off).take size⟩) else cs[off]?

def eqv : EqS → Value → Value → Option Bool
  | .sb, .bool a, .bool b => some (a == b)
  | .si, .int k a, .int k' b => if k = k' then some (a == b) else none
  | .ss, .string a, .string b => some (a == b)
  | .ptr, .pointer none, .pointer b => some b.isNone
  | .ptr, .pointer (some _), .pointer none => some false
  | .ptr, .pointer (some ⟨b, o, none⟩), .pointer (some ⟨b', o', none⟩) => bif Nat.beq b b' then some (Nat.beq o o') else none
  | .slice, .slice none _ _, .slice b _ _ => some b.isNone
  | .slice, .slice (some _) _ _, .slice none _ _ => some false
  | .func, .nilFunc, .nilFunc => some true
  | .func, .nilFunc, .func .. => some false
  | .func, .func .., .nilFunc => some false
  | .nil, .agg _, .agg _ => some true
  | .cons off size agg s rest, .agg xs, .agg ys =>
    match partOf xs.toList off size agg, partOf ys.toList off size agg with
    | some x, some y => match eqv s x y with
      | some true => eqv rest (.agg xs) (.agg ys)
      | some false => some false
      | none => none
    | _, _ => none
  | _, _, _ => none

/-! #### operations -/
inductive AOpd where
  | tmp (t : Nat)
  | const (v : Value)
  | glob (g : Nat)
  | fn (f : FuncId)

inductive LenK where
  | str | slice | map
inductive SlcK where
  | str
  | slice (esz : Nat)
  | arr (n esz : Nat)
inductive ConvK where
  | int (k : IntKind) | strId | s2b (e : TypeId) | b2s

inductive AOp where
  | mv (x : AOpd)
  | pick (c a b : AOpd)
  | alloc (ty : TypeId) (z : List Value)
  | box (ty : TypeId) (x : AOpd)
  | build (z : List Value) (parts : List (Nat × Nat × AOpd))
  | bslice (ty : TypeId) (esz : Nat) (z : List Value) (n : Nat) (parts : List (Nat × Nat × AOpd))
  | load (n : Option Nat) (x : AOpd)
  | store (n : Nat) (a x : AOpd)
  | nilchk (x : AOpd)
  | bin (op : BinOp) (x y : AOpd)
  | eq (neg : Bool) (s : EqS) (x y : AOpd)
  | un (op : UnOp) (x : AOpd)
  | conv (k : ConvK) (x : AOpd)
  | mkfun (fn : Fn) (first captured : List AOpd)
  | mkmap
  | lookup (s : EqS) (zero : Value) (ok : Bool) (m k : AOpd)
  | mapupd (s : EqS) (m k v : AOpd)
  | mkslice (ty : TypeId) (esz bytes : Nat) (z : List Value) (l c : AOpd)
  | slc (k : SlcK) (x : AOpd) (lo hi mx : Option AOpd)
  | faddr (off : Nat) (x : AOpd)
  | fld (off size : Nat) (agg : Bool) (x : AOpd)
  | iaddrS (esz : Nat) (x i : AOpd)
  | iaddrA (len esz : Nat) (x i : AOpd)
  | idxA (len esz : Nat) (agg : Bool) (x i : AOpd)
  | idxS (x i : AOpd)
  | ext (t : AOpd) (i : Nat)
  | len (k : LenK) (x : AOpd)
  | cap (x : AOpd)
  | append (ty : TypeId) (esz bytes : Nat) (s x : AOpd)
  | appendz (ty : TypeId) (esz bytes : Nat) (z : List Value) (s x : AOpd)
  | copy (esz : Nat) (s x : AOpd)
  | minmax (mx : Bool) (xs : List AOpd)
  | call (f : FuncId) (args : List AOpd)
  | callv (f : AOpd) (args : List AOpd)
  | toUnsafe (x : AOpd)
  | ofUnsafe (u : TypeId) (x : AOpd)
  | sliceData (x : AOpd)
  | unsafeStr (e : TypeId) (x n : AOpd)
  | bad

structure AOper where
  dst : Option Nat
  guard : Option (Nat × Bool)
  op : AOp
  lonely : Bool
  preds : Nat
  loud : Nat

inductive ACode where
  | skip
  | region (ops : List AOper)
  | draw (ops : List AOper)
  | seq (a b : ACode)
  | cond (c : AOpd) (thn els : ACode)
  | block (id : Nat) (body : ACode)
  | loop (body : ACode)
  | exit (id : Nat)
  | ret
  | bad

structure AFunc where
  nparams : Nat
  body : ACode
  results : List (Nat × Option (Option Nat))  -- a slot; or the cell that it points to (none: one cell; some n: an aggregate)

abbrev GT := Nat → Option Nat   -- the blocks of the package-level variables
def ev (G : GT) (env : Env) : AOpd → Option Value
  | .tmp t => env.get t
  | .const v => some v
  | .glob g => match G g with | some b => some (.pointer (some ⟨b, 0, none⟩)) | none => none
  | .fn f => some (.func (.func f) #[] #[])
def evs (G : GT) (env : Env) : List AOpd → Option (List Value)
  | [] => some []
  | x :: xs => match ev G env x, evs G env xs with
    | some v, some vs => some (v :: vs)
    | _, _ => none
def evo (G : GT) (env : Env) : Option AOpd → Option (Option Value)
  | none => some none
  | some x => match ev G env x with | some v => some (some v) | none => none

def fillA (G : GT) (env : Env) (cells : List Value) : List (Nat × Nat × AOpd) → Option (List Value)
  | [] => some cells
  | (off, size, x) :: rest => match ev G env x with
    | some v => bif Nat.beq (vcells v).length size && Nat.ble (off + size) cells.length then fillA G env (splice cells off (vcells v)) rest else none
    | none => none

/-- the tag of a slice's address in the abstract heap: 0: place unknown (no elements); 2 * (cells of an element) + (1 if the capacity is exact) -/
def tagOf (esz : Nat) (exact : Bool) : Option Nat := some (bif exact then 2 * esz + 1 else 2 * esz)

def asI : Value → Option Int
  | .int _ n => some n
  | _ => none

def bound (x : Value) (y : Nat) : Option Nat :=
  match x with
  | .int _ i => if 0 ≤ i ∧ i ≤ (y : Int) then some i.toNat else none
  | _ => none

/-- l, h, m of a slice expression -/
def bounds (len cap : Nat) (lo hi mx : Option Value) : Option (Nat × Nat × Nat) :=
  match (match mx with | some v => bound v cap | none => some cap) with
  | none => none
  | some m =>
    match (match hi, mx with | some v, _ => bound v m | none, none => some len | none, some _ => none) with
    | none => none
    | some h => match (match lo with | some v => bound v h | none => some 0) with
      | none => none
      | some l => some (l, h, m)

def sliceA (k : SlcK) (x : Value) (lo hi mx : Option Value) : Option Value :=
  match k, x with
  | .str, .string s => match mx with
    | some _ => none
    | none => match bounds s.size s.size lo hi none with
      | some (l, h, _) => some (.string (s.extract l h))
      | none => none
  | .slice _, .slice none len cap => match bounds len cap lo hi mx with
    | some (l, h, m) => some (.slice none (h - l) (m - l))
    | none => none
  | .slice esz, .slice (some ⟨b, o, some tag⟩) len cap =>
    bif Nat.beq tag 0 then (match bounds 0 0 lo hi none, mx with | some _, none => some (.slice (some ⟨b, o, some 0⟩) 0 0) | _, _ => none)
    else bif Nat.beq (tag / 2) esz then
      match bounds len cap lo hi mx with
      | some (l, h, m) =>
        let exact := Nat.beq (tag % 2) 1 || mx.isSome
        bif Nat.beq m l then
          (bif exact then (bif Nat.beq (tag % 2) 1 || mx.isSome then some (.slice (some ⟨b, o, tagOf esz true⟩) (h - l) (m - l)) else none)
           else some (.slice (some ⟨b, o, some 0⟩) 0 0))
        else some (.slice (some ⟨b, o + l * esz, tagOf esz exact⟩) (h - l) (m - l))
      | none => none
    else none
  | .arr n esz, .pointer (some ⟨b, o, none⟩) => match bounds n n lo hi mx with
    | some (l, h, m) => bif Nat.beq m l then some (.slice (some ⟨b, o, tagOf esz true⟩) (h - l) (m - l)) else some (.slice (some ⟨b, o + l * esz, tagOf esz true⟩) (h - l) (m - l))
    | none => none
  | _, _ => none

def replicateL {α : Type} : Nat → List α → List α
  | 0, _ => []
  | n + 1, l => l ++ replicateL n l

def bytesOf (l : List Value) : Option (List UInt8) :=
  match l with
  | [] => some []
  | .int .u8 n :: rest => match bytesOf rest with
    | some r => some (UInt8.ofNat n.toNat :: r)
    | none => none
  | _ => none

/-- the elements to be appended or copied: how many, and their cells -/
def srcOf (esz : Nat) : Value → H (Nat × List Value)
  | .slice none _ _ => pure (0, [])
  | .slice (some ⟨b, o, some tag⟩) len _ =>
    bif Nat.beq len 0 then pure (0, []) else bif Nat.beq (tag / 2) esz then do
      let c ← readCells ⟨b, o, none⟩ (len * esz)
      pure (len, c)
    else H.fail
  | .string s => bif Nat.beq esz 1 then pure (s.size, s.data.toList.map fun x => .int .u8 x.toNat) else H.fail
  | _ => H.fail

def appendC (ty : TypeId) (esz bytes : Nat) (s : Value) (n : Nat) (new : List Value) : H Value := do
  match s with
  | .slice none len cap =>
    bif Nat.ble (len + n) cap then (bif Nat.beq n 0 then pure s else H.fail) else
    bif Nat.ble ((len + n) * bytes + (len + n)) 1099511627776 && Nat.beq len 0 then do
      let b ← newBlk (.cells new 0 ty 1)
      pure (.slice (some ⟨b, 0, tagOf esz false⟩) n n)
    else H.fail
  | .slice (some ⟨b, o, some tag⟩) len cap =>
    bif Nat.beq (tag / 2) esz && !Nat.beq tag 0 then
      bif Nat.ble (len + n) cap then do
        writeCells ⟨b, o + len * esz, none⟩ new
        pure (.slice (some ⟨b, o, some tag⟩) (len + n) cap)
      else bif Nat.ble ((len + n) * bytes + (len + n)) 1099511627776 then
        bif Nat.beq (tag % 2) 1 then do
          let old ← (bif Nat.beq len 0 then pure [] else readCells ⟨b, o, none⟩ (len * esz))
          let b' ← newBlk (.cells (old ++ new) 0 ty 1)
          pure (.slice (some ⟨b', 0, tagOf esz false⟩) (len + n) (len + n))
        else bif Nat.beq o 0 then do
          let (c, ro, ty', fl) ← getCells b
          let old ← H.opt (take? c 0 (len * esz))
          bif Nat.ble ro (len * esz) && Nat.beq ty' ty && Nat.ble 1 fl && new.all one then do
            killBlk b
            let b' ← newBlk (.cells (old ++ new) ro ty fl)
            pure (.slice (some ⟨b', 0, tagOf esz false⟩) (len + n) (len + n))
          else H.fail
        else H.fail
      else H.fail
    else H.fail
  | _ => H.fail

def appendA (ty : TypeId) (esz bytes : Nat) (s x : Value) : H Value := do
  let (n, new) ← srcOf esz x
  appendC ty esz bytes s n new

def scalEq : Value → Value → Bool
  | .bool a, .bool b => a == b
  | .int k a, .int k' b => k == k' && a == b
  | .string a, .string b => a == b
  | _, _ => false
def scalEqL : List Value → List Value → Bool
  | [], [] => true
  | x :: xs, y :: ys => scalEq x y && scalEqL xs ys
  | _, _ => false
def sameKey : Value → Value → Bool
  | .agg a, .agg b => scalEqL a.toList b.toList
  | a, b => scalEq a b

def findE (s : EqS) (k : Value) : List MapEntry → Nat → Option (Option (Nat × Value))
  | [], _ => some none
  | e :: es, i => match eqv s k e.key with
    | some true => some (some (i, e.val))
    | some false => findE s k es (i + 1)
    | none => none

def getMap (r : Nat) : H (List MapEntry × Nat) := fun σ => match σ.heap.get r with | some (.map es clock) => some ((es, clock), σ) | _ => none

abbrev CallT := FuncId → List Value → St → Option (Value × St × List Nat)

/-- every operation but a call -/
def aop (G : GT) (L : TypeId → Nat → Nat → TypeId → Bool) (env : Env) : AOp → H Value
  | .mv x => H.opt (ev G env x)
  | .pick c a b => match ev G env c with
    | some (.bool t) => H.opt (bif t then ev G env a else ev G env b)
    | _ => H.fail
  | .alloc ty z => do
    let b ← newBlk (.cells z 0 ty 0)
    pure (.pointer (some ⟨b, 0, none⟩))
  | .box ty x => do
    let v ← H.opt (ev G env x)
    let b ← newBlk (.cells (vcells v) 0 ty 0)
    pure (.pointer (some ⟨b, 0, none⟩))
  | .build z parts => do
    let c ← H.opt (fillA G env z parts)
    pure (.agg ⟨c⟩)
  | .bslice ty esz z n parts => do
    let c ← H.opt (fillA G env (replicateL n z) parts)
    let b ← newBlk (.cells c 0 ty 1)
    pure (.slice (some ⟨b, 0, tagOf esz true⟩) n n)
  | .load n x => match ev G env x with
    | some (.pointer (some ⟨b, o, none⟩)) => match n with
      | some n => do
        let c ← readCells ⟨b, o, none⟩ n
        pure (.agg ⟨c⟩)
      | none => do
        let (c, _) ← getCells b
        H.opt c[o]?
    | _ => H.fail
  | .store n a x => match ev G env a, ev G env x with
    | some (.pointer (some ⟨b, o, none⟩)), some v => bif Nat.beq (vcells v).length n then do
        writeCells ⟨b, o, none⟩ (vcells v)
        pure (.tuple #[])
      else H.fail
    | _, _ => H.fail
  | .nilchk x => match ev G env x with
    | some (.pointer (some a)) => pure (.pointer (some a))
    | some (.func (.func f) first captured) => pure (.func (.func f) first captured)
    | _ => H.fail
  | .bin op x y => match ev G env x, ev G env y with
    | some a, some b => bif binPair a b then H.opt (scalOf (pureSem (binOp op 0 a b))) else H.fail
    | _, _ => H.fail
  | .eq neg s x y => match ev G env x, ev G env y with
    | some a, some b => bif eqOk a then (match eqv s a b with
      | some t => pure (.bool (bif neg then !t else t))
      | none => H.fail) else H.fail
    | _, _ => H.fail
  | .un op x => match ev G env x with
    | some a => bif scal a then H.opt (scalOf (pureSem (Op.unary op a))) else H.fail
    | none => H.fail
  | .conv k x => match k, ev G env x with
    | .int k, some (.int _ n) => H.opt (scalOf (pureSem (Conv.intToInt k n)))
    | .strId, some (.string s) => pure (.string s)
    | .s2b ty, some (.string s) => do
      let b ← newBlk (.cells (s.data.toList.map fun x => .int .u8 x.toNat) 0 ty 2)
      pure (.slice (some ⟨b, 0, tagOf 1 false⟩) s.size s.size)
    | .b2s, some x => do
      let (_, c) ← (match x with | .string _ => H.fail | x => srcOf 1 x)
      let l ← H.opt (bytesOf c)
      pure (.string ⟨⟨l⟩⟩)
    | _, _ => H.fail
  | .mkfun fn first captured => match evs G env first, evs G env captured with
    | some f, some c => pure (.func fn ⟨f⟩ ⟨c⟩)
    | _, _ => H.fail
  | .mkmap => do
    let b ← newBlk (.map [] 0)
    pure (.map (some b))
  | .lookup s zero ok m k => match ev G env m, ev G env k with
    | some mv, some kv => match eqv s kv kv with
     | some true => do
      let es ← (match mv with
        | .map none => pure []
        | .map (some r) => do let (es, _) ← getMap r; pure es
        | _ => H.fail)
      match ← H.opt (findE s kv es 0) with
      | some (_, v) => pure (bif ok then .tuple #[v, .bool true] else v)
      | none => pure (bif ok then .tuple #[zero, .bool false] else zero)
     | _ => H.fail
    | _, _ => H.fail
  | .mapupd s m k v => match ev G env m, ev G env k, ev G env v with
    | some (.map (some r)), some kv, some vv => match eqv s kv kv with
     | some true => do
      let (es, clock) ← getMap r
      match ← H.opt (findE s kv es 0) with
      | some (i, _) => match es[i]? with
        | some e => bif sameKey e.key kv then do
            putBlk r (.map (es.set i { key := kv, val := vv, born := e.born }) clock)
            pure (.tuple #[])
          else H.fail
        | none => H.fail
      | none => do
        putBlk r (.map (es ++ [{ key := kv, val := vv, born := clock }]) (clock + 1))
        pure (.tuple #[])
     | _ => H.fail
    | _, _, _ => H.fail
  | .mkslice ty esz bytes z l c => match ev G env l, ev G env c with
    | some (.int _ l), some (.int _ c) =>
      if 0 ≤ l ∧ l ≤ c ∧ (bytes : Int) * c ≤ 1099511627776 ∧ c ≤ 1099511627776 then do
        let b ← newBlk (.cells (replicateL c.toNat z) 0 ty 1)
        pure (.slice (some ⟨b, 0, tagOf esz true⟩) l.toNat c.toNat)
      else H.fail
    | _, _ => H.fail
  | .slc k x lo hi mx => match ev G env x, evo G env lo, evo G env hi, evo G env mx with
    | some x, some lo, some hi, some mx => match k with
      | .arr n esz => match x with
        | .pointer (some ⟨b, o, none⟩) => do
          let (c, _) ← getCells b
          bif Nat.ble (o + n * esz) c.length && Nat.ble 1 esz then H.opt (sliceA (.arr n esz) (.pointer (some ⟨b, o, none⟩)) lo hi mx) else H.fail
        | _ => H.fail
      | k => H.opt (sliceA k x lo hi mx)
    | _, _, _, _ => H.fail
  | .faddr off x => match ev G env x with
    | some (.pointer (some ⟨b, o, none⟩)) => pure (.pointer (some ⟨b, o + off, none⟩))
    | _ => H.fail
  | .fld off size agg x => match ev G env x with
    | some (.agg cs) => H.opt (partOf cs.toList off size agg)
    | _ => H.fail
  | .iaddrS esz x i => match ev G env x, ev G env i with
    | some (.slice (some ⟨b, o, some tag⟩) len _), some (.int _ i) =>
      if 0 ≤ i ∧ i < (len : Int) then (bif Nat.beq (tag / 2) esz then pure (.pointer (some ⟨b, o + i.toNat * esz, none⟩)) else H.fail) else H.fail
    | _, _ => H.fail
  | .iaddrA len esz x i => match ev G env x, ev G env i with
    | some (.pointer (some ⟨b, o, none⟩)), some (.int _ i) =>
      if 0 ≤ i ∧ i < (len : Int) then pure (.pointer (some ⟨b, o + i.toNat * esz, none⟩)) else H.fail
    | _, _ => H.fail
  | .idxA len esz agg x i => match ev G env x, ev G env i with
    | some (.agg cs), some (.int _ i) =>
      if 0 ≤ i ∧ i < (len : Int) then H.opt (partOf cs.toList (i.toNat * esz) esz agg) else H.fail
    | _, _ => H.fail
  | .idxS x i => match ev G env x, ev G env i with
    | some (.string s), some (.int _ i) =>
      if 0 ≤ i then (match s.data.toList[i.toNat]? with | some b => pure (.int .u8 b.toNat) | none => H.fail) else H.fail
    | _, _ => H.fail
  | .ext t i => match ev G env t with
    | some (.tuple vs) => H.opt vs.toList[i]?
    | _ => H.fail
  | .len k x => match k, ev G env x with
    | .str, some (.string s) => pure (.int .i64 s.size)
    | .slice, some (.slice _ n _) => pure (.int .i64 n)
    | .map, some (.map none) => pure (.int .i64 0)
    | .map, some (.map (some r)) => do let (es, _) ← getMap r; pure (.int .i64 es.length)
    | _, _ => H.fail
  | .cap x => match ev G env x with
    | some (.slice none _ cap) => pure (.int .i64 cap)
    | some (.slice (some ⟨_, _, some tag⟩) _ cap) => bif Nat.beq (tag % 2) 1 then pure (.int .i64 cap) else H.fail
    | _ => H.fail
  | .append ty esz bytes s x => match ev G env s, ev G env x with
    | some s, some x => appendA ty esz bytes s x
    | _, _ => H.fail
  | .appendz ty esz bytes z s x => match ev G env s, ev G env x with
    | some s, some (.int _ n) =>
      if 0 ≤ n ∧ n ≤ 1099511627776 ∧ n * (bytes : Int) ≤ 1099511627776 then appendC ty esz bytes s n.toNat (replicateL n.toNat z) else H.fail
    | _, _ => H.fail
  | .copy esz s x => match ev G env s, ev G env x with
    | some (.slice sa len _), some x => do
      let (n, new) ← srcOf esz x
      let m := Nat.min n len
      match sa with
      | none => pure (.int .i64 m)
      | some ⟨b, o, some tag⟩ => bif Nat.beq m 0 then pure (.int .i64 m) else bif Nat.beq (tag / 2) esz then do
          writeCells ⟨b, o, none⟩ (new.take (m * esz))
          pure (.int .i64 m)
        else H.fail
      | _ => H.fail
    | _, _ => H.fail
  | .minmax mx xs => match evs G env xs with
    | some vs => bif vs.all scal then (match vs with
      | [] => H.fail
      | v :: rest => H.opt (scalOf (pureSem (rest.foldlM (bif mx then Builtin.max2 else Builtin.min2) v)))) else H.fail
    | none => H.fail
  | .toUnsafe x => match ev G env x with
    | some (.pointer none) => pure (.pointer none)
    | some (.pointer (some ⟨b, o, none⟩)) => do
      let (c, _) ← getCells b
      bif Nat.ble (o + 1) c.length then pure (.pointer (some ⟨b, o, none⟩)) else H.fail
    | _ => H.fail
  | .ofUnsafe u x => match ev G env x with
    | some (.pointer none) => pure (.pointer none)
    | some (.pointer (some ⟨b, o, none⟩)) => do
      let (c, _, ty, fl) ← getCells b
      bif Nat.beq fl 0 && L ty c.length o u then pure (.pointer (some ⟨b, o, none⟩)) else H.fail
    | _ => H.fail
  | .sliceData x => match ev G env x with
    | some (.slice none _ _) => pure (.pointer none)
    | some (.slice (some ⟨b, o, some tag⟩) _ cap) => bif Nat.ble 1 cap && Nat.ble 1 tag then pure (.pointer (some ⟨b, o, none⟩)) else H.fail
    | _ => H.fail
  | .unsafeStr e x n => match ev G env x, ev G env n with
    | some (.pointer none), some (.int _ 0) => pure (.string .empty)
    | some (.pointer (some ⟨b, o, none⟩)), some (.int _ n) =>
      if 0 ≤ n ∧ n ≤ 1099511627776 then do
        bif Nat.beq n.toNat 0 then pure (.string .empty) else do
        let (c, ro, ty, fl) ← getCells b
        let l ← H.opt (take? c o n.toNat)
        let l ← H.opt (bytesOf l)
        bif Nat.beq o 0 && Nat.beq ty e && Nat.beq fl 1 then do
          putBlk b (.cells c (Nat.max ro n.toNat) ty fl)
          pure (.string ⟨⟨l⟩⟩)
        else H.fail
      else H.fail
    | _, _ => H.fail
  | .call .. | .callv .. | .bad => H.fail

/-! #### what is reached from values -/
def idsOf : Nat → List Value → List Nat
  | 0, _ => []
  | _, [] => []
  | n + 1, v :: vs => (match v with
    | .pointer (some a) => [a.block]
    | .slice (some a) _ _ => [a.block]
    | .map (some r) => [r]
    | .func _ f c => idsOf n (f.toList ++ c.toList)
    | .agg cs => idsOf n cs.toList
    | .tuple cs => idsOf n cs.toList
    | _ => []) ++ idsOf n vs
def blkVals : Blk → List Value
  | .cells c _ _ _ => c
  | .map es _ => es.map (·.key) ++ es.map (·.val)
/-- the blocks from 'from' on that are reached: laid into 't' -/
def collect (h : T Blk) (frm : Nat) : Nat → List Nat → T Blk → List Nat → Option (T Blk × List Nat)
  | _, [], t, acc => some (t, acc)
  | 0, _ :: _, _, _ => none
  | n + 1, b :: bs, t, acc =>
    bif Nat.ble frm b then
      match t.get b with
      | some _ => collect h frm n bs t acc
      | none => match h.get b with
        | some x => collect h frm n (idsOf 100000 (blkVals x) ++ bs) (t.set b (some x)) (b :: acc)
        | none => collect h frm n bs t acc
    else collect h frm n bs t acc

/-- leaving a call that began at state σ0 -/
def leave (σ0 : St) (v : Value) (σ : St) : Option (Value × St × List Nat) :=
  bif Nat.ble σ0.next σ.lo then
    match collect σ.heap σ0.next 1000000 (idsOf 100000 [v]) σ0.heap [] with
    | some (t, ids) => some (v, { heap := t, next := σ.next, lo := σ0.lo }, ids)
    | none => none
  else some (v, { heap := σ.heap, next := σ.next, lo := bif Nat.ble σ.lo σ0.lo then σ.lo else σ0.lo }, [])

inductive Tag where
  | normal
  | exit (id : Nat)
  | ret

def guardOk (env : Env) : Option (Nat × Bool) → Option Bool
  | none => some true
  | some (t, want) => match env.get t with
    | some (.bool b) => some (b == want)
    | some (.tuple _) => some false
    | _ => none

structure Ctx where
  G : GT
  L : TypeId → Nat → Nat → TypeId → Bool
  fs : FuncId → Option AFunc
  ext : FuncId → Option (List Value → Option Value)
  memo : FuncId → List Value → St → Option (Value × Bool)
  lf : Nat

def runOp (X : Ctx) (call : CallT) (env : Env) (o : AOp) (σ : St) : Option (Value × St × List Nat) :=
  match o with
  | .call f args => match evs X.G env args with
    | some vs => call f vs σ
    | none => none
  | .callv f args => match ev X.G env f, evs X.G env args with
    | some (.func (.func f) first captured), some vs => call f (first.toList ++ vs ++ captured.toList) σ
    | _, _ => none
  | o => match aop X.G X.L env o σ with
    | some (v, σ') => some (v, σ', bif Nat.beq σ'.next σ.next then [] else [σ.next])
    | none => none

def putDst (env : Env) (d : Option Nat) (v : Value) : Env := match d with
  | some d => env.set d (some v)
  | none => env

def runOps (X : Ctx) (call : CallT) : List AOper → Env → St → Option (Env × St)
  | [], env, σ => some (env, σ)
  | o :: os, env, σ => match guardOk env o.guard with
    | some true => match runOp X call env o.op σ with
      | some (v, σ', _) => runOps X call os (putDst env o.dst v) σ'
      | none => none
    | some false => runOps X call os (putDst env o.dst (.tuple #[])) σ
    | none => none

/-- the block that a load reads -/
def readOf (G : GT) (env : Env) : AOp → Option Nat
  | .load _ x => match ev G env x with
    | some (.pointer (some a)) => some a.block
    | _ => none
  | _ => none
/-- operation i reads block b: no writer that is not ordered with it may have changed b -/
def apart (preds b : Nat) : List (Nat × Nat) → Bool
  | [] => true
  | (j, m) :: rest => (Nat.testBit preds j || !Nat.beq m b) && apart preds b rest

structure DSt where
  heap : T Blk
  next : Nat
  lo : Nat
  own : List (Nat × List Nat)   -- (operation, the blocks that it made)
  rd : List (Nat × Nat)         -- (operation, the block that it read)
  hot : List (Nat × Nat)        -- (operation, the block that it changed)

/-- the blocks that operations made that are not ordered before -/
def hidden (preds : Nat) : List (Nat × List Nat) → List Nat
  | [] => []
  | (j, l) :: rest => bif Nat.testBit preds j then hidden preds rest else l ++ hidden preds rest
def eraseL : List Nat → T Blk → T Blk
  | [], t => t
  | b :: bs, t => eraseL bs (t.set b none)
/-- t, but at the blocks of the list as in h -/
def patch (h : T Blk) : List Nat → T Blk → T Blk
  | [], t => t
  | b :: bs, t => patch h bs (t.set b (h.get b))
def memN (b : Nat) : List Nat → Bool
  | [] => false
  | c :: cs => Nat.beq b c || memN b cs

def within (a b : Nat) : List Nat → Bool
  | [] => true
  | c :: cs => Nat.ble a c && Nat.blt c b && within a b cs

/-- one operation of a region that draws its order -/
def stepDraw (X : Ctx) (call : CallT) (o : AOper) (i : Nat) (env : Env) (d : DSt) : Option (Env × DSt) :=
  match guardOk env o.guard with
  | none => none
  | some false => some (putDst env o.dst (.tuple #[]), d)
  | some true =>
    bif o.lonely then
      match runOp X call env o.op { heap := d.heap, next := d.next, lo := d.lo } with
      | some (v, σ, _) => bif Nat.ble d.next σ.next && Nat.ble σ.lo d.lo then some (putDst env o.dst v, { heap := σ.heap, next := σ.next, lo := σ.lo, own := d.own, rd := d.rd, hot := d.hot }) else none
      | none => none
    else match o.loud with
    | 0 => match runOp X call env o.op { heap := .nil, next := d.next, lo := d.next } with
      | some (v, σ, _) => bif Nat.beq σ.next d.next && Nat.beq σ.lo d.next then some (putDst env o.dst v, d) else none
      | none => none
    | 1 => match readOf X.G env o.op with
      | some b => bif memN b (hidden o.preds d.own) then none else bif apart o.preds b d.hot then
          match d.heap.get b with
          | some x => match runOp X call env o.op { heap := T.set .nil b (some x), next := d.next, lo := d.next } with
            | some (v, σ, _) => bif Nat.beq σ.next d.next && Nat.beq σ.lo d.next then
                some (putDst env o.dst v, { heap := d.heap, next := d.next, lo := d.lo, own := d.own, rd := (i, b) :: d.rd, hot := d.hot }) else none
            | none => none
          | none => none
        else none
      | none => match runOp X call env o.op { heap := .nil, next := d.next, lo := d.next } with
        | some (v, σ, ids) => bif Nat.ble d.next σ.lo && Nat.ble d.next σ.next && within d.next σ.next ids then
            some (putDst env o.dst v, { heap := patch σ.heap ids d.heap, next := σ.next, lo := d.lo, own := (match ids with | [] => d.own | _ => (i, ids) :: d.own), rd := d.rd, hot := d.hot })
          else none
        | none => none
    | _ =>
      let V := eraseL (hidden o.preds d.own) d.heap
      match runOp X call env o.op { heap := V, next := d.next, lo := d.next } with
      | some (v, σ, ids) =>
        bif Nat.ble d.next σ.next && within d.next σ.next ids then
        bif Nat.ble d.next σ.lo then
          some (putDst env o.dst v, { heap := patch σ.heap ids d.heap, next := σ.next, lo := d.lo, own := (match ids with | [] => d.own | _ => (i, ids) :: d.own), rd := d.rd, hot := d.hot })
        else bif Nat.beq o.loud 3 && apart o.preds σ.lo d.rd then
          match V.get σ.lo with
          | some _ => some (putDst env o.dst v, { heap := (patch σ.heap ids d.heap).set σ.lo (σ.heap.get σ.lo), next := σ.next, lo := bif Nat.ble σ.lo d.lo then σ.lo else d.lo, own := (match ids with | [] => d.own | _ => (i, ids) :: d.own), rd := d.rd, hot := (i, σ.lo) :: d.hot })
          | none => none
        else none
        else none
      | none => none

def runDraw (X : Ctx) (call : CallT) : List AOper → Nat → Env → DSt → Option (Env × DSt)
  | [], _, env, d => some (env, d)
  | o :: os, i, env, d => match stepDraw X call o i env d with
    | some (env', d') => runDraw X call os (i + 1) env' d'
    | none => none

def loopN (body : Env → St → Option (Tag × Env × St)) : Nat → Env → St → Option (Tag × Env × St)
  | 0, _, _ => none
  | n + 1, env, σ => match body env σ with
    | some (.normal, env', σ') => loopN body n env' σ'
    | r => r

def runCode (X : Ctx) (call : CallT) : ACode → Env → St → Option (Tag × Env × St)
  | .skip, env, σ => some (.normal, env, σ)
  | .region ops, env, σ => match runOps X call ops env σ with
    | some (env', σ') => some (.normal, env', σ')
    | none => none
  | .draw ops, env, σ => match runDraw X call ops 0 env { heap := σ.heap, next := σ.next, lo := σ.lo, own := [], rd := [], hot := [] } with
    | some (env', d) => some (.normal, env', { heap := d.heap, next := d.next, lo := d.lo })
    | none => none
  | .seq a b, env, σ => match runCode X call a env σ with
    | some (.normal, env', σ') => runCode X call b env' σ'
    | r => r
  | .cond c a b, env, σ => match ev X.G env c with
    | some (.bool t) => match t with
      | true => runCode X call a env σ
      | false => runCode X call b env σ
    | _ => none
  | .block id a, env, σ => match runCode X call a env σ with
    | some (.exit id', env', σ') => bif Nat.beq id' id then some (.normal, env', σ') else some (.exit id', env', σ')
    | r => r
  | .loop a, env, σ => loopN (runCode X call a) X.lf env σ
  | .exit id, env, σ => some (.exit id, env, σ)
  | .ret, env, σ => some (.ret, env, σ)
  | .bad, _, _ => none

def resultsOf (X : Ctx) (env : Env) : List (Nat × Option (Option Nat)) → H (List Value)
  | [] => pure []
  | (t, c) :: rest => do
    let v ← (match c with
      | none => H.opt (env.get t)
      | some n => aop X.G X.L env (.load n (.tmp t)))
    let vs ← resultsOf X env rest
    pure (v :: vs)
def oneOf : List Value → Value
  | [v] => v
  | vs => .tuple ⟨vs⟩

def envOf (args : List Value) : Env := T.ofList args

/-- a call whose outcome is not known beforehand -/
def callB (X : Ctx) (call : CallT) : CallT := fun f args σ =>
  match X.ext f with
  | some e => match e args with
    | some v => some (v, σ, [])
    | none => none
  | none => match X.fs f with
    | none => none
    | some fn => bif Nat.beq args.length fn.nparams then
        match runCode X call fn.body (envOf args) { heap := σ.heap, next := σ.next, lo := σ.next } with
        | some (tag, env, σ') => match tag with
          | .exit _ => none
          | _ => match resultsOf X env fn.results σ' with
            | some (vs, σ'') => leave σ (oneOf vs) σ''
            | none => none
        | none => none
      else none

def callN (X : Ctx) : Nat → CallT
  | 0 => fun _ _ _ => none
  | n + 1 => fun f args σ =>
    match X.memo f args σ with
    | some (v, true) => some (v, σ, [])
    | _ => callB X (callN X n) f args σ

/-! #### the translation -/
section comp
variable (ti : TypeId → Option TypeInfo) (sk : TypeId → Bool)
def und (t : TypeId) : Option TypeDesc := match ti t with
  | some i => match i.desc with
    | .named _ u => match ti u with | some j => some j.desc | none => none
    | d => some d
  | none => none
def cellsOf? (t : TypeId) : Option Nat := match ti t with | some i => some i.size | none => none
def zeroOf? (t : TypeId) : Option Value := match ti t with | some i => i.zero | none => none
def aggOf (t : TypeId) : Option Bool := match und ti t with | some (.struct _) => some true | some (.array ..) => some true | some _ => some false | none => none

def zeroCells? (t : TypeId) : Option (List Value) := match zeroOf? ti t with
  | some z => bif (vcells z).all closed1 then some (vcells z) else none
  | none => none
def okOpd : Operand → Bool
  | .const v => closedC v
  | _ => true
def opd : Operand → AOpd
  | .tmp t => .tmp t
  | .const v => .const v
  | .global g => .glob g
  | .func f => .fn f
def opds (l : Array Operand) : List AOpd := l.toList.map opd
def eqField (sh : TypeId → EqS) (f : Field) (acc : EqS) : EqS := match cellsOf? ti f.type, aggOf ti f.type with
  | some s, some a => bif f.name == "_" then .bad else .cons f.offset s a (sh f.type) acc
  | _, _ => .bad
def eqShape : Nat → TypeId → EqS
  | 0, _ => .bad
  | n + 1, t => match und ti t with
    | some .bool => .sb
    | some (.int _) => .si
    | some .string => .ss
    | some (.pointer e) => match cellsOf? ti e with | some (_ + 1) => .ptr | _ => .bad
    | some (.slice _) => .slice
    | some (.func ..) => .func
    | some (.struct fs) => bif sk t then fs.toList.foldr (eqField ti (eqShape n)) .nil else .bad
    | _ => .bad
def eqBad : EqS → Bool
  | .bad => true
  | .cons _ _ _ s r => eqBad s || eqBad r
  | _ => false
def fieldParts (fs : List Field) : List (Nat × Operand) → Option (List (Nat × Nat × AOpd))
  | [] => some []
  | (i, x) :: rest => match fs[i]?, fieldParts fs rest with
    | some f, some l => match cellsOf? ti f.type with
      | some s => some ((f.offset, s, opd x) :: l)
      | none => none
    | _, _ => none
def elemParts (size : Nat) : List (Nat × Operand) → List (Nat × Nat × AOpd)
  | [] => []
  | (i, x) :: rest => (i * size, size, opd x) :: elemParts size rest

def compOp (o : Op) : AOp := Option.getD (dflt := .bad) <| match o with
  | .move x | .assign x => some (.mv (opd x))
  | .pick c a b => some (.pick (opd c) (opd a) (opd b))
  | .alloc e => (zeroCells? ti e).map (.alloc e)
  | .box e x => some (.box e (opd x))
  | .build t parts => match und ti t, zeroCells? ti t with
    | some (.struct fs), some z => bif fs.toList.all (fun f => (cellsOf? ti f.type).isSome) then (fieldParts ti fs.toList parts.toList).map (.build z) else none
    | some (.array _ e), some z => (cellsOf? ti e).map fun s => .build z (elemParts s parts.toList)
    | _, _ => none
  | .buildSlice t n parts => match und ti t with
    | some (.slice e) => match cellsOf? ti e, zeroCells? ti e with
      | some s, some z => bif Nat.ble (n * s) 16777216 && Nat.beq z.length s && Nat.ble 1 s then some (.bslice e s z n (elemParts s parts.toList)) else none
      | _, _ => none
    | _ => none
  | .load t a => match aggOf ti t, cellsOf? ti t with
    | some true, some n => some (.load (some n) (opd a))
    | some false, _ => some (.load none (opd a))
    | _, _ => none
  | .store t a x => (cellsOf? ti t).map fun n => .store n (opd a) (opd x)
  | .nilCheck x => some (.nilchk (opd x))
  | .binOp op t x y _ => match op with
    | .eql | .neq => match und ti t with
      | some (.int _) | some .string => some (.bin op (opd x) (opd y))
      | _ => let s := eqShape ti sk 20 t
        bif eqBad s then none else some (.eq (match op with | .neq => true | _ => false) s (opd x) (opd y))
    | _ => some (.bin op (opd x) (opd y))
  | .unOp op _ x => some (.un op (opd x))
  | .convert s d x => match und ti s, und ti d with
    | some (.pointer e), some .unsafePointer => match cellsOf? ti e with
      | some 0 => none
      | some _ => some (.toUnsafe (opd x))
      | none => none
    | some .unsafePointer, some (.pointer e) => match cellsOf? ti e with
      | some 0 => none
      | some _ => some (.ofUnsafe e (opd x))
      | none => none
    | some (.int _), some (.int k) => some (.conv (.int k) (opd x))
    | some .string, some .string => some (.conv .strId (opd x))
    | some .string, some (.slice e) => match und ti e with | some (.int .u8) => some (.conv (.s2b e) (opd x)) | _ => none
    | some (.slice e), some .string => match und ti e with | some (.int .u8) => some (.conv .b2s (opd x)) | _ => none
    | _, _ => none
  | .makeFunc fn f c => match fn with
    | .func g => some (.mkfun (.func g) (opds f) (opds c))
    | _ => none
  | .makeMap _ none => some .mkmap
  | .lookup t m k ok => match und ti t with
    | some (.map kt e) => match zeroOf? ti e with
      | some z => bif closedC z then some (.lookup (eqShape ti sk 20 kt) z ok (opd m) (opd k)) else none
      | none => none
    | _ => none
  | .mapUpdate t m k v => match und ti t with
    | some (.map kt _) => some (.mapupd (eqShape ti sk 20 kt) (opd m) (opd k) (opd v))
    | _ => none
  | .makeSlice t l c => match und ti t with
    | some (.slice e) => match ti e, zeroCells? ti e with
      | some i, some z => bif Nat.beq z.length i.size && Nat.ble 1 i.size then some (.mkslice e i.size i.bytes z (opd l) (opd c)) else none
      | _, _ => none
    | _ => none
  | .slice t x lo hi mx => match und ti t with
    | some .string => some (.slc .str (opd x) (lo.map opd) (hi.map opd) (mx.map opd))
    | some (.slice e) => (cellsOf? ti e).map fun s => .slc (.slice s) (opd x) (lo.map opd) (hi.map opd) (mx.map opd)
    | some (.array n e) => (cellsOf? ti e).map fun s => .slc (.arr n s) (opd x) (lo.map opd) (hi.map opd) (mx.map opd)
    | some (.pointer a) => match und ti a with
      | some (.array n e) => (cellsOf? ti e).map fun s => .slc (.arr n s) (opd x) (lo.map opd) (hi.map opd) (mx.map opd)
      | _ => none
    | _ => none
  | .fieldAddr t x f => match und ti t with
    | some (.struct fs) => match fs[f]? with
      | some f => match cellsOf? ti f.type with
        | some 0 => none
        | some _ => some (.faddr f.offset (opd x))
        | none => none
      | none => none
    | _ => none
  | .field t x f => match und ti t with
    | some (.struct fs) => match fs[f]? with
      | some f => match cellsOf? ti f.type, aggOf ti f.type with
        | some s, some a => some (.fld f.offset s a (opd x))
        | _, _ => none
      | none => none
    | _ => none
  | .indexAddr t x i => match und ti t with
    | some (.slice e) => (cellsOf? ti e).map fun s => .iaddrS s (opd x) (opd i)
    | some (.array n e) => (cellsOf? ti e).map fun s => .iaddrA n s (opd x) (opd i)
    | _ => none
  | .index t x i => match und ti t with
    | some .string => some (.idxS (opd x) (opd i))
    | some (.array n e) => match cellsOf? ti e, aggOf ti e with
      | some s, some a => some (.idxA n s a (opd x) (opd i))
      | _, _ => none
    | _ => none
  | .extract t i => some (.ext (opd t) i)
  | .call c => match c.callee with
    | .value (.func f) => some (.call f (opds c.args))
    | .value f => some (.callv (opd f) (opds c.args))
    | .builtin b => match b, c.args.toList, c.argTypes.toList with
      | .len, [x], [t] => match und ti t with
        | some .string => some (.len .str (opd x))
        | some (.slice _) => some (.len .slice (opd x))
        | some (.map ..) => some (.len .map (opd x))
        | _ => none
      | .cap, [x], [t] => match und ti t with
        | some (.slice _) => some (.cap (opd x))
        | _ => none
      | .append, [s, x], [t, t'] => match und ti t, und ti t' with
        | some (.slice e), some (.slice _) | some (.slice e), some .string => match ti e, zeroCells? ti e with
          | some i, some z => bif Nat.beq z.length i.size && Nat.ble 1 i.size then some (.append e i.size i.bytes (opd s) (opd x)) else none
          | _, _ => none
        | some (.slice e), some (.int _) => match ti e, zeroCells? ti e with
          | some i, some z => bif Nat.beq z.length i.size && Nat.ble 1 i.size then some (.appendz e i.size i.bytes z (opd s) (opd x)) else none
          | _, _ => none
        | _, _ => none
      | .copy, [s, x], t :: _ => match und ti t with
        | some (.slice e) => (cellsOf? ti e).map fun z => .copy z (opd s) (opd x)
        | _ => none
      | .unsafeSliceData, [x], _ => some (.sliceData (opd x))
      | .unsafeString, [x, n], [t, _] => match und ti t with
        | some (.pointer e) => match und ti e with
          | some (.int .u8) => match cellsOf? ti e with
            | some 1 => some (.unsafeStr e (opd x) (opd n))
            | _ => none
          | _ => none
        | _ => none
      | .min, xs, _ => some (.minmax false (xs.map opd))
      | .max, xs, _ => some (.minmax true (xs.map opd))
      | _, _, _ => none
    | _ => none
  | _ => none

/-- 0: no touch of the heap · 1: a load, or new memory alone · 2: a call, or another read · 3: a write -/
def loudness : AOp → Nat
  | .alloc .. | .box .. | .bslice .. | .mkmap | .mkslice .. | .load .. => 1
  | .conv (.s2b _) _ => 1
  | .conv .b2s _ | .lookup .. | .len .map _ | .call .. | .callv .. | .toUnsafe _ | .ofUnsafe .. => 2
  | .store .. | .mapupd .. | .append .. | .appendz .. | .copy .. | .unsafeStr .. => 3
  | _ => 0

def guardOf (ops : Array Oper) (g : Option (Nat × Bool)) : Option (Option (Nat × Bool)) :=
  match g with
  | none => some none
  | some (j, w) => match (ops[j]?).bind (·.dst) with
    | some d => some (some (d, w))
    | none => none

/-- is the earlier of operations i and j ordered before the later? -/
def ordered (before : Array Nat) (i j : Nat) : Bool := bif Nat.blt j i then Nat.testBit (before.getD i 0) j else Nat.testBit (before.getD j 0) i
/-- is the operation ordered with all that touch the heap? · may the others that are not ordered with it be what they are? -/
def lonelyAt (before : Array Nat) (i : Nat) : List (Nat × Nat) → Bool
  | [] => true
  | (j, l) :: rest => (Nat.beq l 0 || Nat.beq j i || ordered before i j) && lonelyAt before i rest
def besides : Nat → Nat → Bool
  | 0, _ => true
  | _, 0 => true
  | 1, _ => true
  | _, 1 => true
  | 2, 2 => true
  | _, _ => false
def besideOk (before : Array Nat) (i k : Nat) : List (Nat × Nat) → Bool
  | [] => true
  | (j, l) :: rest => (Nat.beq j i || besides k l || ordered before i j) && besideOk before i k rest

/-- the slots that an operation looks at -/
def looks : List Operand → Option (Nat × Bool) → List Nat
  | [], none => []
  | [], some (t, _) => [t]
  | .tmp t :: l, g => t :: looks l g
  | _ :: l, g => looks l g
def inO (d : Option Nat) (l : List Nat) : Bool := match d with
  | some d => memN d l
  | none => false
def sameO : Option Nat → Option Nat → Bool
  | some a, some b => Nat.beq a b
  | _, _ => false
/-- what operation i writes and reads against the operations before it -/
def slotsOk (pre : Nat) (d : Option Nat) (l : List Nat) : List (Nat × Option Nat × List Nat) → Bool
  | [] => true
  | (j, dj, lj) :: rest => !sameO d dj && (Nat.testBit pre j || (!inO dj l && !inO d lj)) && slotsOk pre d l rest

def opOf (o : Oper) : AOp := bif o.op.operands.all okOpd then compOp ti sk o.op else .bad

def compOpers (all : Array Oper) : List Oper → Option (List AOper)
  | [] => some []
  | o :: os => match guardOf all o.guard, compOpers all os with
    | some g, some rest => some ({ dst := o.dst, guard := g, op := opOf ti sk o, lonely := true, preds := 0, loud := 0 } :: rest)
    | _, _ => none

def backOk (i : Nat) : List Edge → Bool
  | [] => true
  | e :: es => (Nat.blt e.on i || !Region.binds .any e) && backOk i es

def compDraw (all : Array Oper) (louds : List (Nat × Nat)) (before : Array Nat) : List Oper → Nat → List (Nat × Option Nat × List Nat) → Option (List AOper)
  | [], _, _ => some []
  | o :: os, i, sl => match guardOf all o.guard with
    | none => none
    | some g =>
      let op := opOf ti sk o
      let l := loudness op
      let lk := looks o.op.operands.toList g
      bif (Nat.beq l 0 || besideOk before i l louds) && slotsOk (before.getD i 0) o.dst lk sl && backOk i o.after.toList then
        match compDraw all louds before os (i + 1) ((i, o.dst, lk) :: sl) with
        | some rest => some ({ dst := o.dst, guard := g, op, lonely := !Nat.beq l 0 && lonelyAt before i louds, preds := before.getD i 0, loud := l } :: rest)
        | none => none
      else none

def loudsOf : List Oper → Nat → List (Nat × Nat)
  | [], _ => []
  | o :: os, i => (i, loudness (opOf ti sk o)) :: loudsOf os (i + 1)

def comp : Code → ACode
  | .skip => .skip
  | .label _ => .skip
  | .region _ ops draw => match draw with
    | true => match compDraw ti sk ops (loudsOf ti sk ops.toList 0) (Region.before ops) ops.toList 0 [] with
      | some l => .draw l
      | none => .bad
    | false => match compOpers ti sk ops ops.toList with
      | some l => .region l
      | none => .bad
  | .seq a b => .seq (comp a) (comp b)
  | .cond c a b => bif okOpd c then .cond (opd c) (comp a) (comp b) else .bad
  | .block id a => .block id (comp a)
  | .loop a => .loop (comp a)
  | .exit id => .exit id
  | .ret => .ret
  | _ => .bad

def compResults : List ResultVar → Option (List (Nat × Option (Option Nat)))
  | [] => some []
  | .tmp t :: rest => (compResults rest).map ((t, none) :: ·)
  | .cell a t :: rest => match aggOf ti t, cellsOf? ti t, compResults rest with
    | some true, some n, some l => some ((a, some (some n)) :: l)
    | some false, _, some l => some ((a, some none) :: l)
    | _, _, _ => none

def compFunc (fn : Func) : Option AFunc := match fn.body, compResults ti fn.results.toList with
  | some c, some r => some { nparams := fn.params.size + fn.nfree, body := comp ti sk c, results := r }
  | _, _ => none
end comp
end
end Go.Am

namespace Go.Am

theorem beqT {a b : Nat} (h : a = b) : Nat.beq a b = true := Nat.beq_eq ▸ h
theorem beqF {a b : Nat} (h : a ≠ b) : Nat.beq a b = false := by
  cases hb : Nat.beq a b with
  | false => rfl
  | true => exact absurd (Nat.eq_of_beq_eq_true hb) h
theorem of_beqT {a b : Nat} (h : Nat.beq a b = true) : a = b := Nat.eq_of_beq_eq_true h
theorem of_beqF {a b : Nat} (h : Nat.beq a b = false) : a ≠ b := fun e => by rw [beqT e] at h; cases h
theorem of_bleT {a b : Nat} (h : Nat.ble a b = true) : a ≤ b := Nat.le_of_ble_eq_true h
theorem of_bleF {a b : Nat} (h : Nat.ble a b = false) : b < a := by
  rcases Nat.lt_or_ge b a with h' | h'
  · exact h'
  · rw [Nat.ble_eq_true_of_le h'] at h; cases h

/-! #### the trie -/
namespace T
variable {α : Type}
theorem get_nil (k : Nat) : (T.nil : T α).get k = none := rfl
theorem get_setF (n : Nat) : ∀ (k : Nat) (v : Option α) (t : T α), k < n → ∀ j, (setF n k v t).get j = if j = k then v else t.get j := by
  induction n with
  | zero => intro k v t h; omega
  | succ n ih =>
    intro k v t h j
    have half : ∀ m : Nat, m ≠ 0 → m / 2 < m := fun m hm => by omega
    cases t with
    | nil =>
      by_cases hk : k = 0
      · subst hk
        by_cases hj : j = 0
        · subst hj; simp [setF_nil, setF_node, get_node, get_nil']
        · simp [setF_nil, setF_node, get_node, get_nil', hj, beqF hj]
      · have hkb : Nat.beq k 0 = false := beqF hk
        by_cases hp : k % 2 = 1
        · have hpb : Nat.beq (k % 2) 1 = true := beqT hp
          simp only [setF_nil, setF_node, hkb, hpb, cond_false, cond_true]
          by_cases hj : j = 0
          · subst hj; have : ¬ (0 = k) := by omega
            simp [get_node, get_nil', this]
          · have hjb : Nat.beq j 0 = false := beqF hj
            by_cases hq : j % 2 = 1
            · have hqb : Nat.beq (j % 2) 1 = true := beqT hq
              simp only [get_node, get_nil', hjb, hqb, cond_false, cond_true]
              rw [ih _ _ _ (by omega)]
              by_cases e : j = k
              · simp [e]
              · have : ¬ (j / 2 = k / 2) := by omega
                simp [e, this, get_node, get_nil']
            · have hqb : Nat.beq (j % 2) 1 = false := beqF hq
              have e : ¬ (j = k) := by intro e; rw [e] at hq; exact hq hp
              simp [get_node, get_nil', hqb, e]
        · have hpb : Nat.beq (k % 2) 1 = false := beqF hp
          simp only [setF_nil, setF_node, hkb, hpb, cond_false]
          by_cases hj : j = 0
          · subst hj; have : ¬ (0 = k) := by omega
            simp [get_node, get_nil', this]
          · have hjb : Nat.beq j 0 = false := beqF hj
            by_cases hq : j % 2 = 1
            · have hqb : Nat.beq (j % 2) 1 = true := beqT hq
              have e : ¬ (j = k) := by intro e; rw [e] at hq; exact hp hq
              simp [get_node, get_nil', hqb, e]
            · have hqb : Nat.beq (j % 2) 1 = false := beqF hq
              simp only [get_node, get_nil', hjb, hqb, cond_false]
              rw [ih _ _ _ (by omega)]
              by_cases e : j = k
              · simp [e]
              · have : ¬ (j / 2 - 1 = k / 2 - 1) := by omega
                simp [e, this, get_node, get_nil']
    | node u l r =>
      by_cases hk : k = 0
      · subst hk
        by_cases hj : j = 0
        · subst hj; simp [setF_nil, setF_node, get_node, get_nil']
        · simp [setF_nil, setF_node, get_node, get_nil', hj, beqF hj]
      · have hkb : Nat.beq k 0 = false := beqF hk
        by_cases hp : k % 2 = 1
        · have hpb : Nat.beq (k % 2) 1 = true := beqT hp
          simp only [setF_nil, setF_node, hkb, hpb, cond_false, cond_true]
          by_cases hj : j = 0
          · subst hj; have : ¬ (0 = k) := by omega
            simp [get_node, get_nil', this]
          · have hjb : Nat.beq j 0 = false := beqF hj
            by_cases hq : j % 2 = 1
            · have hqb : Nat.beq (j % 2) 1 = true := beqT hq
              simp only [get_node, get_nil', hjb, hqb, cond_false, cond_true]
              rw [ih _ _ _ (by omega)]
              by_cases e : j = k
              · simp [e]
              · have : ¬ (j / 2 = k / 2) := by omega
                simp [e, this]
            · have hqb : Nat.beq (j % 2) 1 = false := beqF hq
              have e : ¬ (j = k) := by intro e; rw [e] at hq; exact hq hp
              simp [get_node, get_nil', hqb, e, hjb]
        · have hpb : Nat.beq (k % 2) 1 = false := beqF hp
          simp only [setF_nil, setF_node, hkb, hpb, cond_false]
          by_cases hj : j = 0
          · subst hj; have : ¬ (0 = k) := by omega
            simp [get_node, get_nil', this]
          · have hjb : Nat.beq j 0 = false := beqF hj
            by_cases hq : j % 2 = 1
            · have hqb : Nat.beq (j % 2) 1 = true := beqT hq
              have e : ¬ (j = k) := by intro e; rw [e] at hq; exact hp hq
              simp [get_node, get_nil', hqb, e, hjb]
            · have hqb : Nat.beq (j % 2) 1 = false := beqF hq
              simp only [get_node, get_nil', hjb, hqb, cond_false]
              rw [ih _ _ _ (by omega)]
              by_cases e : j = k
              · simp [e]
              · have : ¬ (j / 2 - 1 = k / 2 - 1) := by omega
                simp [e, this]
theorem get_set (t : T α) (k : Nat) (v : Option α) (j : Nat) : (t.set k v).get j = if j = k then v else t.get j := get_setF _ _ _ _ (by omega) j
theorem get_ofListFrom (l : List α) : ∀ (t : T α) (i j : Nat), (ofListFrom t i l).get j = if i ≤ j ∧ j < i + l.length then l[j - i]? else t.get j := by
  induction l with
  | nil => intro t i j; simp [ofListFrom]; intro a b; omega
  | cons x xs ih =>
    intro t i j
    rw [ofListFrom, ih, get_set]
    by_cases h : j = i
    · subst h; rw [if_neg (by omega), if_pos rfl, if_pos (by simp)]; simp
    · by_cases h2 : i + 1 ≤ j ∧ j < i + 1 + xs.length
      · have h3 : i ≤ j ∧ j < i + (x :: xs).length := by simp; omega
        rw [if_pos h2, if_pos h3]
        have : j - i = (j - (i + 1)) + 1 := by omega
        rw [this]; simp
      · have h3 : ¬ (i ≤ j ∧ j < i + (x :: xs).length) := by simp; omega
        rw [if_neg h2, if_neg h3, if_neg h]
theorem get_ofList (l : List α) (j : Nat) : (ofList l).get j = l[j]? := by
  rw [ofList, get_ofListFrom]
  by_cases h : j < l.length
  · simp [h]
  · simp [h, get_nil]
end T

/-! #### values that are alike up to the names of blocks and to capacities -/
abbrev Mp := Nat → Option (Nat × Nat)

mutual
inductive Rel (μ : Mp) : Value → Value → Prop
  | bool (b : Bool) : Rel μ (.bool b) (.bool b)
  | int (k : IntKind) (n : Int) : Rel μ (.int k n) (.int k n)
  | string (s : ByteArray) : Rel μ (.string s) (.string s)
  | nilFunc : Rel μ .nilFunc .nilFunc
  | nilIface : Rel μ .nilIface .nilIface
  | ptr0 : Rel μ (.pointer none) (.pointer none)
  | ptr {b o B lim : Nat} : μ b = some (B, lim) → Rel μ (.pointer (some ⟨b, o, none⟩)) (.pointer (some ⟨B, o, none⟩))
  | slice0 : Rel μ (.slice none 0 0) (.slice none 0 0)
  | lost {b o c : Nat} {a : Addr} : Rel μ (.slice (some ⟨b, o, some 0⟩) 0 0) (.slice (some a) 0 c)
  | slice {b o B lim tag len cap cap' : Nat} : μ b = some (B, lim) → 2 ≤ tag → len ≤ cap → (tag % 2 = 1 → cap' = cap) → cap ≤ cap' → o + cap' * (tag / 2) ≤ lim →
      Rel μ (.slice (some ⟨b, o, some tag⟩) len cap) (.slice (some ⟨B, o, none⟩) len cap')
  | map0 : Rel μ (.map none) (.map none)
  | map {b B lim : Nat} : μ b = some (B, lim) → Rel μ (.map (some b)) (.map (some B))
  | func {f : FuncId} {xs ys us vs : List Value} : RelL μ xs ys → RelL μ us vs → Rel μ (.func (.func f) ⟨xs⟩ ⟨us⟩) (.func (.func f) ⟨ys⟩ ⟨vs⟩)
  | agg {xs ys : List Value} : RelL μ xs ys → Rel μ (.agg ⟨xs⟩) (.agg ⟨ys⟩)
  | tuple {xs ys : List Value} : RelL μ xs ys → Rel μ (.tuple ⟨xs⟩) (.tuple ⟨ys⟩)
inductive RelL (μ : Mp) : List Value → List Value → Prop
  | nil : RelL μ [] []
  | cons {x y : Value} {xs ys : List Value} : Rel μ x y → RelL μ xs ys → RelL μ (x :: xs) (y :: ys)
end

def Ext (μ μ' : Mp) : Prop := ∀ b x, μ b = some x → μ' b = some x
theorem Ext.refl (μ : Mp) : Ext μ μ := fun _ _ h => h
theorem Ext.trans {a b c : Mp} (h : Ext a b) (h' : Ext b c) : Ext a c := fun x y e => h' x y (h x y e)

mutual
theorem Rel.mono {μ μ' : Mp} (e : Ext μ μ') : ∀ {v v' : Value}, Rel μ v v' → Rel μ' v v'
  | _, _, .bool b => .bool b
  | _, _, .int k n => .int k n
  | _, _, .string s => .string s
  | _, _, .nilFunc => .nilFunc
  | _, _, .nilIface => .nilIface
  | _, _, .ptr0 => .ptr0
  | _, _, .ptr h => .ptr (e _ _ h)
  | _, _, .slice0 => .slice0
  | _, _, .lost => .lost
  | _, _, .slice h a b c d f => .slice (e _ _ h) a b c d f
  | _, _, .map0 => .map0
  | _, _, .map h => .map (e _ _ h)
  | _, _, .func a b => .func (RelL.mono e a) (RelL.mono e b)
  | _, _, .agg a => .agg (RelL.mono e a)
  | _, _, .tuple a => .tuple (RelL.mono e a)
theorem RelL.mono {μ μ' : Mp} (e : Ext μ μ') : ∀ {v v' : List Value}, RelL μ v v' → RelL μ' v v'
  | _, _, .nil => .nil
  | _, _, .cons a b => .cons (Rel.mono e a) (RelL.mono e b)
end

section
variable {μ : Mp}
theorem RelL.length : ∀ {xs ys : List Value}, RelL μ xs ys → xs.length = ys.length
  | _, _, .nil => rfl
  | _, _, .cons _ h => by simp [h.length]
theorem RelL.get : ∀ {xs ys : List Value}, RelL μ xs ys → ∀ {i : Nat} {x : Value}, xs[i]? = some x → ∃ y, ys[i]? = some y ∧ Rel μ x y
  | _, _, .nil, i, x, h => by simp at h
  | _, _, .cons a r, 0, x, h => by simp at h; subst h; exact ⟨_, rfl, a⟩
  | _, _, .cons a r, i + 1, x, h => by simpa using r.get (by simpa using h)
theorem RelL.of_get : ∀ {xs ys : List Value}, xs.length = ys.length → (∀ (i : Nat) x y, xs[i]? = some x → ys[i]? = some y → Rel μ x y) → RelL μ xs ys
  | [], [], _, _ => .nil
  | [], _ :: _, h, _ => by simp at h
  | _ :: _, [], h, _ => by simp at h
  | x :: xs, y :: ys, h, g => .cons (g 0 x y rfl rfl) (RelL.of_get (by simpa using h) fun i a b ha hb => g (i + 1) a b (by simpa using ha) (by simpa using hb))
theorem RelL.append : ∀ {xs ys us vs : List Value}, RelL μ xs ys → RelL μ us vs → RelL μ (xs ++ us) (ys ++ vs)
  | _, _, _, _, .nil, h => h
  | _, _, _, _, .cons a r, h => .cons a (r.append h)
theorem RelL.take (n : Nat) : ∀ {xs ys : List Value}, RelL μ xs ys → RelL μ (xs.take n) (ys.take n) := by
  induction n with
  | zero => intro _ _ _; simpa using .nil
  | succ n ih => intro _ _ h; cases h with
    | nil => simpa using .nil
    | cons a r => simpa using .cons a (ih r)
theorem RelL.drop (n : Nat) : ∀ {xs ys : List Value}, RelL μ xs ys → RelL μ (xs.drop n) (ys.drop n) := by
  induction n with
  | zero => intro _ _ h; simpa using h
  | succ n ih => intro _ _ h; cases h with
    | nil => simpa using .nil
    | cons a r => simpa using ih r

theorem Rel.of_bool {b : Bool} {v : Value} (h : Rel μ (.bool b) v) : v = .bool b := by cases h; rfl
theorem Rel.of_int {k : IntKind} {n : Int} {v : Value} (h : Rel μ (.int k n) v) : v = .int k n := by cases h; rfl
theorem Rel.of_string {s : ByteArray} {v : Value} (h : Rel μ (.string s) v) : v = .string s := by cases h; rfl
theorem Rel.of_scal {v v' : Value} (hs : scal v = true) (h : Rel μ v v') : v' = v := by
  cases h <;> first | rfl | (simp [scal] at hs)
theorem Rel.closed1 {v : Value} (h : closed1 v = true) : Rel μ v v := by
  unfold Go.Am.closed1 at h
  split at h <;> first | exact .bool _ | exact .int _ _ | exact .string _ | exact .ptr0 | exact .slice0 | exact .map0 | exact .nilFunc | exact .nilIface | (simp at h)
theorem RelL.closed : ∀ {l : List Value}, l.all Go.Am.closed1 = true → RelL μ l l
  | [], _ => .nil
  | x :: xs, h => by simp at h; exact .cons (.closed1 h.1) (RelL.closed (by simpa using h.2))
theorem Rel.closedC {v : Value} (h : closedC v = true) : Rel μ v v := by
  unfold Go.Am.closedC at h
  split at h
  · rename_i cs; obtain ⟨l⟩ := cs; exact .agg (RelL.closed h)
  · rename_i cs; obtain ⟨l⟩ := cs; exact .tuple (RelL.closed h)
  · exact .closed1 h
theorem Rel.cells {v v' : Value} (h : Rel μ v v') : RelL μ (vcells v) v'.cells.toList := by
  cases v <;> first | (cases h; assumption) | (have h' := h; cases h <;> exact .cons h' .nil) | (cases h)
end
end Go.Am

namespace Go.Am

def FrOk (fl ro size : Nat) (fr : Nat × Nat) : Prop :=
  (∀ i, ro ≤ i → i < size → ¬ (fr.1 ≤ i ∧ i < fr.2)) ∧ (fl ≠ 2 → ∃ r, r ≤ ro ∧ fr = (0, r))

def EntRel (μ : Mp) (e e' : MapEntry) : Prop := Rel μ e.key e'.key ∧ Rel μ e.val e'.val ∧ e.born = e'.born

def BlkRel (μ : Mp) (x : Blk) (lim : Nat) (o : Option Obj) : Prop :=
  match x with
  | .cells c ro ty fl => ∃ cs fr, o = some (.cells cs ty fr) ∧ c.length ≤ lim ∧ lim ≤ cs.size ∧ (fl = 0 → cs.size = c.length) ∧
      (∀ (i : Nat) v, c[i]? = some v → ∃ v', cs[i]? = some v' ∧ Rel μ v v') ∧ FrOk fl ro cs.size fr
  | .map es clock => ∃ es', o = some (.map es' clock) ∧ es.length = es'.size ∧ ∀ (i : Nat) e, es[i]? = some e → ∃ e', es'[i]? = some e' ∧ EntRel μ e e'

theorem BlkRel.mono {μ μ' : Mp} (e : Ext μ μ') {x : Blk} {lim : Nat} {o : Option Obj} (h : BlkRel μ x lim o) : BlkRel μ' x lim o := by
  cases x with
  | cells c ro ty fl =>
    obtain ⟨cs, fr, h1, h2, h3, h4, h5, h6⟩ := h
    refine ⟨cs, fr, h1, h2, h3, h4, fun i v hv => ?_, h6⟩
    obtain ⟨v', a, b⟩ := h5 i v hv
    exact ⟨v', a, b.mono e⟩
  | map es clock =>
    obtain ⟨es', h1, h2, h3⟩ := h
    refine ⟨es', h1, h2, fun i x hx => ?_⟩
    obtain ⟨x', a, b, c, d⟩ := h3 i x hx
    exact ⟨x', a, b.mono e, c.mono e, d⟩

structure Sim (μ : Mp) (w : World) (h : T Blk) : Prop where
  live : ∀ b x, h.get b = some x → ∃ B lim, μ b = some (B, lim) ∧ BlkRel μ x lim w.heap[B]?
  inj : ∀ b b' x x' B lim lim', h.get b = some x → h.get b' = some x' → μ b = some (B, lim) → μ b' = some (B, lim') → b = b'

structure Ok (μ : Mp) (w : World) (σ : St) : Prop where
  sim : Sim μ w σ.heap
  wf : ∀ b x, σ.heap.get b = some x → b < σ.next
  free : ∀ b, σ.next ≤ b → μ b = none

/-- what a run leaves alone besides the memory -/
def SameOut (w w' : World) : Prop := w'.os = w.os ∧ w'.output = w.output
theorem SameOut.refl (w : World) : SameOut w w := ⟨rfl, rfl⟩
theorem SameOut.trans {a b c : World} (h : SameOut a b) (h' : SameOut b c) : SameOut a c := ⟨h'.1.trans h.1, h'.2.trans h.2⟩

structure Step (M : Nat → Prop) (μ : Mp) (w : World) (σ : St) (μ' : Mp) (w' : World) (σ' : St) : Prop where
  ok : Ok μ' w' σ'
  next : σ.next ≤ σ'.next
  size : w.heap.size ≤ w'.heap.size
  lo : σ'.lo ≤ σ.lo
  mlo : ∀ b, M b → σ'.lo ≤ b
  old : ∀ b, b < σ.next → μ' b = μ b
  keep : ∀ b x, b < σ.next → σ'.heap.get b = some x → ∃ x0, σ.heap.get b = some x0
  fr : ∀ B, B < w.heap.size → (∀ b x lim, σ.heap.get b = some x → μ b = some (B, lim) → ¬ M b) → w'.heap[B]? = w.heap[B]?
  fresh : ∀ b B lim, σ.next ≤ b → μ' b = some (B, lim) → w.heap.size ≤ B ∨ ∃ b0 x lim0, σ.heap.get b0 = some x ∧ μ b0 = some (B, lim0) ∧ M b0
  out : SameOut w w'

theorem Step.ext {M : Nat → Prop} {μ μ' : Mp} {w w' : World} {σ σ' : St} (h : Step M μ w σ μ' w' σ') (ok : Ok μ w σ) : Ext μ μ' := by
  intro b x hx
  rw [h.old b, hx]
  rcases Nat.lt_or_ge b σ.next with h' | h'
  · exact h'
  · rw [ok.free b h'] at hx; cases hx

theorem Step.trans {M M' : Nat → Prop} {μ μ1 μ2 : Mp} {w w1 w2 : World} {σ σ1 σ2 : St} (ok : Ok μ w σ) (h : Step M μ w σ μ1 w1 σ1) (h' : Step M' μ1 w1 σ1 μ2 w2 σ2) :
    Step (fun b => M b ∨ M' b) μ w σ μ2 w2 σ2 where
  ok := h'.ok
  next := Nat.le_trans h.next h'.next
  size := Nat.le_trans h.size h'.size
  lo := Nat.le_trans h'.lo h.lo
  mlo b hb := hb.elim (fun a => Nat.le_trans h'.lo (h.mlo b a)) (h'.mlo b)
  old b hb := by rw [h'.old b (Nat.lt_of_lt_of_le hb h.next), h.old b hb]
  keep b x hb hx := by
    obtain ⟨x1, h1⟩ := h'.keep b x (Nat.lt_of_lt_of_le hb h.next) hx
    exact h.keep b x1 hb h1
  fr B hB hm := by
    have e1 := h.fr B hB fun b x lim hb hμ hM => hm b x lim hb hμ (.inl hM)
    rw [← e1]
    refine h'.fr B (Nat.lt_of_lt_of_le hB h.size) fun b1 x lim hb hμ hM => ?_
    rcases Nat.lt_or_ge b1 σ.next with hlt | hge
    · obtain ⟨x0, hx0⟩ := h.keep b1 x hlt hb
      exact hm b1 x0 lim hx0 (by rw [← h.old b1 hlt]; exact hμ) (.inr hM)
    · rcases h.fresh b1 B lim hge hμ with hs | ⟨b0, x0, lim0, hx0, hμ0, hM0⟩
      · omega
      · exact hm b0 x0 lim0 hx0 hμ0 (.inl hM0)
  out := h.out.trans h'.out
  fresh b B lim hb hμ := by
    rcases Nat.lt_or_ge b σ1.next with hlt | hge
    · rw [h'.old b hlt] at hμ
      rcases h.fresh b B lim hb hμ with hs | ⟨b0, x0, lim0, hx0, hμ0, hM0⟩
      · exact .inl hs
      · exact .inr ⟨b0, x0, lim0, hx0, hμ0, .inl hM0⟩
    · rcases h'.fresh b B lim hge hμ with hs | ⟨b1, x1, lim1, hx1, hμ1, hM1⟩
      · exact .inl (Nat.le_trans h.size hs)
      · rcases Nat.lt_or_ge b1 σ.next with hlt1 | hge1
        · obtain ⟨x0, hx0⟩ := h.keep b1 x1 hlt1 hx1
          exact .inr ⟨b1, x0, lim1, hx0, by rw [← h.old b1 hlt1]; exact hμ1, .inr hM1⟩
        · rcases h.fresh b1 B lim1 hge1 hμ1 with hs | ⟨b0, x0, lim0, hx0, hμ0, hM0⟩
          · exact .inl hs
          · exact .inr ⟨b0, x0, lim0, hx0, hμ0, .inl hM0⟩

theorem Step.refl {μ : Mp} {w : World} {σ : St} (ok : Ok μ w σ) : Step (fun _ => False) μ w σ μ w σ where
  ok := ok
  next := Nat.le_refl _
  size := Nat.le_refl _
  lo := Nat.le_refl _
  mlo _ h := h.elim
  old _ _ := rfl
  keep _ x _ h := ⟨x, h⟩
  fr _ _ _ := rfl
  out := .refl _
  fresh b B lim hb hμ := by rw [ok.free b hb] at hμ; cases hμ

/-- a world that has only drawn -/
theorem Sim.heap_eq {μ : Mp} {w w' : World} {h : T Blk} (e : w'.heap = w.heap) (s : Sim μ w h) : Sim μ w' h :=
  ⟨fun b x hx => by rw [e]; exact s.live b x hx, s.inj⟩
theorem Step.drawn {μ : Mp} {w w' : World} {σ : St} (ok : Ok μ w σ) (e : w'.heap = w.heap) (ho : SameOut w w' := by exact ⟨rfl, rfl⟩) : Step (fun _ => False) μ w σ μ w' σ where
  ok := ⟨ok.sim.heap_eq e, ok.wf, ok.free⟩
  next := Nat.le_refl _
  size := by rw [e]; exact Nat.le_refl _
  lo := Nat.le_refl _
  mlo _ h := h.elim
  old _ _ := rfl
  keep _ x _ h := ⟨x, h⟩
  fr _ _ _ := by rw [e]
  out := ho
  fresh b B lim hb hμ := by rw [ok.free b hb] at hμ; cases hμ

def Mp.up (μ : Mp) (b B lim : Nat) : Mp := fun c => if c = b then some (B, lim) else μ c
theorem Mp.up_ext {μ : Mp} {b B lim : Nat} (h : μ b = none) : Ext μ (μ.up b B lim) := by
  intro c x hx
  unfold Mp.up
  split
  · rename_i e; subst e; rw [h] at hx; cases hx
  · exact hx
theorem Mp.up_same (μ : Mp) (b B lim : Nat) : μ.up b B lim b = some (B, lim) := by simp [Mp.up]

/-- a new block -/
theorem Step.newBlk {μ : Mp} {w : World} {σ : St} (ok : Ok μ w σ) (x : Blk) (o : Obj) (lim : Nat) (w' : World) (hw : w'.heap = w.heap.push o)
    (hx : BlkRel (μ.up σ.next w.heap.size lim) x lim (some o)) (ho : SameOut w w' := by exact ⟨rfl, rfl⟩) :
    Step (fun _ => False) μ w σ (μ.up σ.next w.heap.size lim) w' { heap := σ.heap.set σ.next (some x), next := σ.next + 1, lo := σ.lo } := by
  have hnone : μ σ.next = none := ok.free _ (Nat.le_refl _)
  have hext := Mp.up_ext (B := w.heap.size) (lim := lim) hnone
  have hB : ∀ b x B lim, σ.heap.get b = some x → μ b = some (B, lim) → B < w.heap.size := by
    intro b x B l hb hμ
    obtain ⟨B', l', h1, h2⟩ := ok.sim.live b x hb
    rw [hμ] at h1; cases h1
    rcases Nat.lt_or_ge B w.heap.size with h | h
    · exact h
    · rw [Array.getElem?_eq_none h] at h2
      cases x <;> simp [BlkRel] at h2
  refine ⟨⟨⟨?_, ?_⟩, ?_, ?_⟩, by simp, by rw [hw]; simp, Nat.le_refl _, fun _ h => h.elim, ?_, ?_, ?_, ?_, ho⟩
  · intro b y hb
    rw [T.get_set] at hb
    by_cases e : b = σ.next
    · subst e; simp at hb; subst hb
      exact ⟨_, _, Mp.up_same .., by rw [hw]; simpa using hx⟩
    · rw [if_neg e] at hb
      obtain ⟨B, l, h1, h2⟩ := ok.sim.live b y hb
      refine ⟨B, l, hext _ _ h1, ?_⟩
      have := hB b y B l hb h1
      rw [hw, Array.getElem?_push, if_neg (by omega)]
      exact h2.mono hext
  · intro b b' y y' B l l' hb hb' hμ hμ'
    rw [T.get_set] at hb hb'
    by_cases e : b = σ.next
    · by_cases e' : b' = σ.next
      · rw [e, e']
      · rw [if_neg e'] at hb'
        simp only [Mp.up, e, if_true] at hμ
        simp only [Mp.up, if_neg e'] at hμ'
        cases hμ
        have := hB b' y' _ l' hb' hμ'
        omega
    · rw [if_neg e] at hb
      simp only [Mp.up, if_neg e] at hμ
      by_cases e' : b' = σ.next
      · simp only [Mp.up, e', if_true] at hμ'
        cases hμ'
        have := hB b y _ l hb hμ
        omega
      · rw [if_neg e'] at hb'
        simp only [Mp.up, if_neg e'] at hμ'
        exact ok.sim.inj b b' y y' B l l' hb hb' hμ hμ'
  · intro b y hb
    rw [T.get_set] at hb
    by_cases e : b = σ.next
    · subst e; exact Nat.lt_succ_self _
    · rw [if_neg e] at hb; exact Nat.lt_succ_of_lt (ok.wf b y hb)
  · intro b hb
    have : b ≠ σ.next := fun e => by subst e; exact absurd hb (by simp)
    simp only [Mp.up, if_neg this]
    exact ok.free b (by simp at hb; omega)
  · intro b hb
    simp only [Mp.up, if_neg (show ¬ b = σ.next by omega)]
  · intro b y hlt hb
    rw [T.get_set, if_neg (by omega)] at hb
    exact ⟨y, hb⟩
  · intro B hB' _
    rw [hw, Array.getElem?_push, if_neg (by omega)]
  · intro b B l hb hμ
    by_cases e : b = σ.next
    · simp only [Mp.up, if_pos e] at hμ; cases hμ; exact .inl (Nat.le_refl _)
    · simp only [Mp.up, if_neg e] at hμ; rw [ok.free b hb] at hμ; cases hμ

/-- a block is written -/
theorem Step.putBlk {μ : Mp} {w : World} {σ : St} (ok : Ok μ w σ) (b B lim : Nat) (x0 x : Blk) (w' : World) (hb : σ.heap.get b = some x0) (hμ : μ b = some (B, lim))
    (hsize : w'.heap.size = w.heap.size) (hrest : ∀ B', B' ≠ B → w'.heap[B']? = w.heap[B']?) (hx : BlkRel μ x lim w'.heap[B]?) (lo' : Nat) (hlo : lo' ≤ b) (hlo2 : lo' ≤ σ.lo) (ho : SameOut w w' := by exact ⟨rfl, rfl⟩) :
    Step (fun c => c = b) μ w σ μ w' { heap := σ.heap.set b (some x), next := σ.next, lo := lo' } := by
  refine ⟨⟨⟨?_, ?_⟩, ?_, ok.free⟩, Nat.le_refl _, by rw [hsize]; exact Nat.le_refl _, hlo2, fun c hc => by subst hc; exact hlo, fun _ _ => rfl, ?_, ?_, ?_, ho⟩
  · intro c y hc
    rw [T.get_set] at hc
    by_cases e : c = b
    · subst e; simp at hc; subst hc; exact ⟨B, lim, hμ, hx⟩
    · rw [if_neg e] at hc
      obtain ⟨C, l, h1, h2⟩ := ok.sim.live c y hc
      refine ⟨C, l, h1, ?_⟩
      rw [hrest C fun e' => e (by subst e'; exact ok.sim.inj c b y x0 C l lim hc hb h1 hμ)]
      exact h2
  · intro c c' y y' C l l' hc hc' h1 h2
    rw [T.get_set] at hc hc'
    have g : ∀ c y, (if c = b then some x else σ.heap.get c) = some y → ∃ y0, σ.heap.get c = some y0 := by
      intro c y h; by_cases e : c = b
      · subst e; exact ⟨_, hb⟩
      · rw [if_neg e] at h; exact ⟨_, h⟩
    obtain ⟨y0, hy0⟩ := g c y hc
    obtain ⟨y1, hy1⟩ := g c' y' hc'
    exact ok.sim.inj c c' _ _ C l l' hy0 hy1 h1 h2
  · intro c y hc
    rw [T.get_set] at hc
    by_cases e : c = b
    · subst e; exact ok.wf c x0 hb
    · rw [if_neg e] at hc; exact ok.wf c y hc
  · intro c y _ hc
    rw [T.get_set] at hc
    by_cases e : c = b
    · subst e; exact ⟨_, hb⟩
    · rw [if_neg e] at hc; exact ⟨_, hc⟩
  · intro C _ hm
    exact hrest C fun e => by subst e; exact hm b x0 lim hb hμ rfl
  · intro c C l hc h; rw [ok.free c hc] at h; cases h

/-- blocks may be forgotten -/
theorem Ok.forget {μ : Mp} {w : World} {σ : St} {h : T Blk} (ok : Ok μ w σ) (sub : ∀ b x, h.get b = some x → σ.heap.get b = some x) (lo : Nat) : Ok μ w { heap := h, next := σ.next, lo } :=
  ⟨⟨fun b x hx => ok.sim.live b x (sub b x hx), fun b b' x x' B l l' hb hb' => ok.sim.inj b b' x x' B l l' (sub _ _ hb) (sub _ _ hb')⟩, fun b x hx => ok.wf b x (sub b x hx), ok.free⟩
end Go.Am

namespace Go.Am
variable {P : Program}

theorem addr_add (B o n : Nat) : (⟨B, o, none⟩ : Addr).add n = ⟨B, o + n, none⟩ := by unfold Addr.add; split <;> simp_all

theorem setCell_heap (w : World) (B i : Nat) (v : Value) (cs : Array Value) (ty : TypeId) (fr : Nat × Nat) (h : w.heap[B]? = some (.cells cs ty fr)) :
    (w.setCell ⟨B, i, none⟩ v).heap.size = w.heap.size ∧ (∀ B', B' ≠ B → (w.setCell ⟨B, i, none⟩ v).heap[B']? = w.heap[B']?) ∧
    (w.setCell ⟨B, i, none⟩ v).heap[B]? = some (.cells (cs.setIfInBounds i v) ty fr) := by
  refine ⟨by simp [World.setCell], fun B' hB' => ?_, ?_⟩
  · simp only [World.setCell, Array.getElem?_modify]
    rw [if_neg (by simpa using fun e => hB' e.symm)]
  · simp only [World.setCell, Array.getElem?_modify, h]
    simp

theorem run_store1 (w : World) (B i : Nat) (v : Value) (cs : Array Value) (ty : TypeId) (fr : Nat × Nat) (h : w.heap[B]? = some (.cells cs ty fr)) (hi : i < cs.size) (hf : ¬ (fr.1 ≤ i ∧ i < fr.2)) (h1 : one v = true) :
    (store ⟨B, i, none⟩ v).run P w = .ok () (w.setCell ⟨B, i, none⟩ v) := by
  have hc : w.cell? ⟨B, i, none⟩ = some cs[i] := by simp [World.cell?, h, hi]
  have hz : w.frozen? ⟨B, i, none⟩ = false := by
    simp only [World.frozen?, h]
    obtain ⟨lo, hi'⟩ := fr
    simp at hf ⊢
    intro a; exact hf a
  cases v <;> first | (simp [one] at h1; done) | simp [store, Sem.run, hc, hz]

theorem run_stores (B : Nat) (ty : TypeId) (fr : Nat × Nat) : ∀ (vs : List Value) (o i : Nat) (w : World) (cs : Array Value), w.heap[B]? = some (.cells cs ty fr) → o + i + vs.length ≤ cs.size →
    (∀ j, o + i ≤ j → j < o + i + vs.length → ¬ (fr.1 ≤ j ∧ j < fr.2)) → vs.all one = true →
    ∃ w' cs', (storeCells ⟨B, o, none⟩ vs i).run P w = .ok () w' ∧ w'.heap.size = w.heap.size ∧ (∀ B', B' ≠ B → w'.heap[B']? = w.heap[B']?) ∧ w'.heap[B]? = some (.cells cs' ty fr) ∧ cs'.size = cs.size ∧
      (∀ j, cs'[j]? = if o + i ≤ j ∧ j < o + i + vs.length then vs[j - (o + i)]? else cs[j]?) ∧ SameOut w w'
  | [], o, i, w, cs, h, _, _, _ => ⟨w, cs, rfl, rfl, fun _ _ => rfl, h, rfl, (fun j => by rw [if_neg (by simp)]), .refl _⟩
  | v :: vs, o, i, w, cs, h, hl, hf, h1 => by
    simp only [List.length_cons] at hl hf
    simp only [List.all_cons, Bool.and_eq_true] at h1
    obtain ⟨a, b, c⟩ := setCell_heap w B (o + i) v cs ty fr h
    have hs := run_store1 (P := P) w B (o + i) v cs ty fr h (by omega) (hf _ (Nat.le_refl _) (by omega)) h1.1
    obtain ⟨w', cs', r, s1, s2, s3, s4, s5, s6⟩ := run_stores B ty fr vs o (i + 1) (w.setCell ⟨B, o + i, none⟩ v) (cs.setIfInBounds (o + i) v) c (by simp; omega) (fun j h1 h2 => hf j (by omega) (by omega)) h1.2
    refine ⟨w', cs', ?_, by rw [s1, a], fun B' hB' => by rw [s2 B' hB', b B' hB'], s3, by rw [s4]; simp, fun j => ?_, SameOut.trans (b := w.setCell ⟨B, o + i, none⟩ v) ⟨rfl, rfl⟩ s6⟩
    · simp only [storeCells, Sem.run_bind, addr_add, hs, Result.andThen, r]
    · rw [s5 j]
      by_cases h2 : o + (i + 1) ≤ j ∧ j < o + (i + 1) + vs.length
      · rw [if_pos h2, if_pos (by simp; omega)]
        have : j - (o + i) = (j - (o + (i + 1))) + 1 := by omega
        rw [this]; simp
      · rw [if_neg h2]
        by_cases h3 : j = o + i
        · subst h3
          rw [if_pos (by simp)]
          have : o + i < cs.size := by omega
          simp [this]
        · rw [if_neg (by simp; omega), Array.getElem?_setIfInBounds_ne (by omega)]

/-- what a row holds in the concrete heap -/
theorem Sim.cells {μ : Mp} {w : World} {h : T Blk} (s : Sim μ w h) {b ro : Nat} {c : List Value} {ty : TypeId} {fl : Nat} (hb : h.get b = some (.cells c ro ty fl)) {B lim : Nat} (hμ : μ b = some (B, lim)) :
    ∃ cs fr, w.heap[B]? = some (.cells cs ty fr) ∧ c.length ≤ lim ∧ lim ≤ cs.size ∧ (fl = 0 → cs.size = c.length) ∧ (∀ (i : Nat) v, c[i]? = some v → ∃ v', cs[i]? = some v' ∧ Rel μ v v') ∧ FrOk fl ro cs.size fr := by
  obtain ⟨B', l', h1, h2⟩ := s.live b _ hb
  rw [hμ] at h1; cases h1; exact h2

theorem take?_spec {l : List Value} {o n : Nat} {r : List Value} (h : take? l o n = some r) : o + n ≤ l.length ∧ r = (l.drop o).take n := by
  unfold take? at h
  cases hb : Nat.ble (o + n) l.length with
  | true => rw [hb] at h; simp at h; exact ⟨of_bleT hb, h.symm⟩
  | false => rw [hb] at h; simp at h

/-- cells are read -/
theorem run_reads {μ : Mp} {w : World} {h : T Blk} (s : Sim μ w h) {b ro o n : Nat} {c r : List Value} {ty : TypeId} {fl : Nat} (hb : h.get b = some (.cells c ro ty fl)) {B lim : Nat} (hμ : μ b = some (B, lim)) (ht : take? c o n = some r) :
    ∃ r' : List Value, (loadCells ⟨B, o, none⟩ n).run P w = .ok r'.toArray w ∧ RelL μ r r' := by
  obtain ⟨cs, fr, h1, h2, h3, h4, h5, h6⟩ := s.cells hb hμ
  obtain ⟨hl, rfl⟩ := take?_spec ht
  have hlen : ((c.drop o).take n).length = n := by simp; omega
  refine ⟨(cs.toList.drop o).take n, ?_, ?_⟩
  · have hlen' : ((cs.toList.drop o).take n).length = n := by simp; omega
    have := run_loadCells_list (P := P) w ⟨B, o, none⟩ ((cs.toList.drop o).take n) (fun j v hj => by
      rw [addr_add]
      simp only [World.cell?, h1]
      rw [List.getElem?_take] at hj
      split at hj
      · simpa using hj
      · cases hj)
    rwa [hlen'] at this
  · refine RelL.of_get (by simp; omega) fun i x y hx hy => ?_
    rw [List.getElem?_take] at hx hy
    split at hx
    · rename_i hi
      rw [if_pos hi] at hy
      simp only [List.getElem?_drop] at hx hy
      obtain ⟨v', e1, e2⟩ := h5 _ _ hx
      simp at hy
      rw [e1] at hy; cases hy; exact e2
    · cases hx

theorem one_of_rel {μ : Mp} {v v' : Value} (h : Rel μ v v') : one v' = one v := by cases h <;> rfl
theorem all_one_of_rel {μ : Mp} : ∀ {l l' : List Value}, RelL μ l l' → l'.all one = l.all one
  | _, _, .nil => rfl
  | _, _, .cons a r => by simp [one_of_rel a, all_one_of_rel r]

theorem splice_get (l : List Value) (o : Nat) (new : List Value) (h : o + new.length ≤ l.length) (j : Nat) : (splice l o new)[j]? = if o ≤ j ∧ j < o + new.length then new[j - o]? else l[j]? := by
  unfold splice
  rw [List.append_assoc]
  by_cases h1 : j < o
  · rw [List.getElem?_append_left (by simp; omega), List.getElem?_take, if_pos h1, if_neg (by omega)]
  · rw [List.getElem?_append_right (by simp; omega)]
    have e : (List.take o l).length = o := by simp; omega
    rw [e]
    by_cases h2 : j < o + new.length
    · rw [List.getElem?_append_left (by omega), if_pos (by omega)]
    · rw [List.getElem?_append_right (by omega), if_neg (by omega), List.getElem?_drop]
      congr 1; omega
theorem splice_length (l : List Value) (o : Nat) (new : List Value) (h : o + new.length ≤ l.length) : (splice l o new).length = l.length := by
  unfold splice; simp; omega

theorem writeCells_spec {a : Addr} {vs : List Value} {σ σ' : St} (h : writeCells a vs σ = some ((), σ')) : (vs = [] ∧ σ' = σ) ∨
    ∃ c ro ty fl, σ.heap.get a.block = some (.cells c ro ty fl) ∧ a.off + vs.length ≤ c.length ∧ ro ≤ a.off ∧ vs.all one = true ∧ vs ≠ [] ∧
      σ' = { heap := σ.heap.set a.block (some (.cells (splice c a.off vs) ro ty fl)), next := σ.next, lo := bif Nat.ble a.block σ.lo then a.block else σ.lo } := by
  unfold writeCells at h
  cases vs with
  | nil => left; simp only [pure, H.pure, Option.some.injEq, Prod.mk.injEq, true_and] at h; exact ⟨rfl, h.symm⟩
  | cons v vs =>
    right
    simp only [bind, H.bind, getCells] at h
    cases hb : σ.heap.get a.block with
    | none => rw [hb] at h; simp at h
    | some x =>
      rw [hb] at h
      cases x with
      | map es cl => simp at h
      | cells c ro ty fl =>
        simp only at h
        cases hc : (Nat.ble (a.off + (v :: vs).length) c.length && Nat.ble ro a.off && (v :: vs).all one) with
        | false => rw [hc] at h; simp [H.fail] at h
        | true =>
          rw [hc] at h
          simp only [Go.Am.putBlk, cond_true, Option.some.injEq, Prod.mk.injEq, true_and] at h
          simp only [Bool.and_eq_true] at hc
          exact ⟨c, ro, ty, fl, rfl, of_bleT hc.1.1, of_bleT hc.1.2, hc.2, by simp, h.symm⟩

theorem lo_min (a b : Nat) : (bif Nat.ble a b then a else b) = min a b := by
  cases h : Nat.ble a b with
  | true => have := of_bleT h; simp; omega
  | false => have := of_bleF h; simp; omega

/-- cells are written -/
theorem run_writes {μ : Mp} {w : World} {σ σ' : St} (ok : Ok μ w σ) {b o : Nat} {vs vs' : List Value} (h : writeCells ⟨b, o, none⟩ vs σ = some ((), σ')) {B lim : Nat} (hμ : μ b = some (B, lim)) (hr : RelL μ vs vs') :
    ∃ w', (storeCells ⟨B, o, none⟩ vs').run P w = .ok () w' ∧ Step (fun c => c = b ∧ vs ≠ []) μ w σ μ w' σ' ∧ ∀ c, c = b ∧ vs ≠ [] → σ'.lo = min c σ.lo := by
  rcases writeCells_spec h with ⟨rfl, rfl⟩ | ⟨c, ro, ty, fl, hb, hl, hro, h1, hne, rfl⟩
  · cases hr
    have := Step.refl ok
    exact ⟨w, rfl, ⟨this.ok, this.next, this.size, this.lo, fun _ h => (h.2 rfl).elim, this.old, this.keep, fun B hB _ => rfl, fun b B l h1 h2 => (this.fresh b B l h1 h2).imp id fun ⟨_, _, _, _, _, h⟩ => h.elim, this.out⟩, fun _ h => (h.2 rfl).elim⟩
  · obtain ⟨cs, fr, g1, g2, g3, g4, g5, g6, g7⟩ := ok.sim.cells hb hμ
    simp only at hb hl hro
    have hlen := hr.length
    obtain ⟨w', cs', r, s1, s2, s3, s4, s5, s6⟩ := run_stores (P := P) B ty fr vs' o 0 w cs g1 (by omega) (fun j a b => g6 j (by omega) (by omega)) (by rw [all_one_of_rel hr]; exact h1)
    refine ⟨w', r, ?_, fun c h => by rw [h.1]; simp only [lo_min]⟩
    have st := Step.putBlk ok b B lim (.cells c ro ty fl) (.cells (splice c o vs) ro ty fl) w' hb hμ s1 s2 ?_ (min b σ.lo) (by omega) (by omega) s6
    · simp only [lo_min]
      refine ⟨st.ok, st.next, st.size, st.lo, fun c h => st.mlo c h.1, st.old, st.keep, fun B hB hm => st.fr B hB fun c x l h1 h2 h3 => hm c x l h1 h2 ⟨h3, hne⟩, fun c B l h1 h2 => (st.fresh c B l h1 h2).imp id fun ⟨a1, a2, a3, a4, a5, a6⟩ => ⟨a1, a2, a3, a4, a5, a6, hne⟩, st.out⟩
    · refine ⟨cs', fr, s3, by rw [splice_length _ _ _ hl]; exact g2, by omega, fun e => by rw [s4, splice_length _ _ _ hl]; exact g4 e, fun i v hv => ?_, ?_⟩
      · rw [s5]
        rw [splice_get _ _ _ hl] at hv
        by_cases hi : o ≤ i ∧ i < o + vs.length
        · rw [if_pos hi] at hv
          rw [if_pos (by omega)]
          obtain ⟨y, hy, hxy⟩ := hr.get hv
          exact ⟨y, by simpa using hy, hxy⟩
        · rw [if_neg hi] at hv
          rw [if_neg (by omega)]
          exact g5 i v hv
      · rw [s4]; exact ⟨g6, g7⟩
end Go.Am

