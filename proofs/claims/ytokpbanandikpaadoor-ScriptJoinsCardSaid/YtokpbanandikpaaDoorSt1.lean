/- Part 1 of the proof: V1, V2, V3, V4, V5, V6, V7, V8, V9, V10, V11, V12, V13, V14, V15, U1, U2, U3, U4, U5. -/
import Derived.Calls
import Derived.Tactics
import Derived.LoopN
import Derived.OrdersHeld
import Derived.KernelRfl
import Derived.Laws.Sem
import Derived.Laws.World
import Derived.Laws.Entries
import Derived.CallsIn
import Derived.TacticsIn
import Derived.OrdersIn
import Derived.Scope
import Derived.LoopNIn
import Derived.RangeFuncLeaves
import Derived.Laws.AppendOwn
import Derived.ChangeKeysEq
import Derived.Laws.StructEq
import Derived.ProofKit
import Derived.Carry
set_option linter.unusedVariables false
set_option linter.unusedSimpArgs false
set_option linter.all false

/- A verifier of our own over the kit's Code.wp: a weakest precondition that reckons over partial frames (a list of slots and what stands in them), and its soundness. Program-independent. -/
namespace Go.V

/-! ### frames -/
abbrev Env := List (Nat × Value)

def look : Env → Nat → Option Value
  | [], _ => none
  | x :: e, t => cond (Nat.beq x.1 t) (some x.2) (look e t)

def ev (e : Env) : Operand → Option Value
  | .tmp t => look e t
  | .const v => some v
  | .global g => some (.pointer (some ⟨g, 0, none⟩))
  | .func f => some (.func (.func f) #[] #[])

def evs (e : Env) : List Operand → Option (List Value)
  | [] => some []
  | x :: r => match ev e x, evs e r with
    | some v, some vs => some (v :: vs)
    | _, _ => none

/-- What is known of a frame. -/
def Agrees (n : Nat) (ds : List Deferred) (e : Env) (a : Act) : Prop := a.tmps.size = n ∧ a.defers = ds ∧ ∀ t v, look e t = some v → a.tmps[t]? = some v

theorem Agrees.look {n : Nat} {ds : List Deferred} {e : Env} {a : Act} (h : Agrees n ds e a) {t : Nat} {v : Value} (hl : look e t = some v) : a.tmps.getD t undef = v := by
  have := h.2.2 t v hl
  simp [this]

theorem Agrees.ev {n : Nat} {ds : List Deferred} {e : Env} {a : Act} (h : Agrees n ds e a) {x : Operand} {v : Value} (hl : ev e x = some v) : a.eval x = v := by
  cases x with
  | tmp t => exact h.look hl
  | const u => simpa [V.ev, Act.eval] using hl
  | global g => simpa [V.ev, Act.eval] using hl
  | func f => simpa [V.ev, Act.eval] using hl

theorem Agrees.evs {n : Nat} {ds : List Deferred} {e : Env} {a : Act} (h : Agrees n ds e a) : ∀ {xs : List Operand} {vs : List Value}, evs e xs = some vs → xs.map a.eval = vs
  | [], vs, hl => by simp [V.evs] at hl; simp [hl]
  | x :: r, vs, hl => by
    simp only [V.evs] at hl
    split at hl
    · rename_i v us hv hu
      cases hl
      simp [h.ev hv, Agrees.evs h hu]
    · cases hl

theorem Agrees.put {n : Nat} {ds : List Deferred} {e : Env} {a : Act} (h : Agrees n ds e a) {d : Nat} (hd : d < n) (v : Value) : Agrees n ds ((d, v) :: e) (a.put (some d) v) := by
  obtain ⟨h1, h2, h3⟩ := h
  refine ⟨by simp [Act.put, h1], by simp [Act.put, h2], fun t u hl => ?_⟩
  simp only [V.look] at hl
  cases hb : Nat.beq d t with
  | true =>
    have hdt : d = t := Nat.eq_of_beq_eq_true hb
    subst hdt
    simp only [hb, cond_true, Option.some.injEq] at hl
    subst hl
    simp [Act.put, h1, hd]
  | false =>
    have hdt : d ≠ t := fun h => by subst h; rw [Nat.beq_refl] at hb; cases hb
    simp only [hb, cond_false] at hl
    have := h3 t u hl
    simp [Act.put, hdt, this]

theorem Agrees.putN {n : Nat} {ds : List Deferred} {e : Env} {a : Act} (h : Agrees n ds e a) (v : Value) : Agrees n ds e (a.put none v) := h

/-! ### shapes of values -/
inductive Sh1 where
  | int (k : IntKind) | bool | str | ptr | sl | map | flt (k : FloatKind) | raw
  deriving Inhabited

inductive Sh where
  | one (s : Sh1)
  | agg (l : List Sh1)
  | lst
  deriving Inhabited

structure Sl where
  at_ : Option Addr
  len : Nat
  cap : Nat

@[reducible] def Sh1.T : Sh1 → Type
  | .int _ => Int
  | .bool => Bool
  | .str => ByteArray
  | .ptr => Option Addr
  | .sl => Sl
  | .map => Option Nat
  | .flt _ => Nat
  | .raw => Value

def Sh1.mk : (s : Sh1) → s.T → Value
  | .int k, n => .int k n
  | .bool, b => .bool b
  | .str, s => .string s
  | .ptr, p => .pointer p
  | .sl, x => .slice x.at_ x.len x.cap
  | .map, r => .map r
  | .flt k, b => .float k b
  | .raw, v => v

/-- There are things of these shapes .. -/
def ExS : List Sh1 → (List Value → Prop) → Prop
  | [], K => K []
  | .int k :: r, K => ∃ n : Int, ExS r fun vs => K (.int k n :: vs)
  | .bool :: r, K => ∃ b : Bool, ExS r fun vs => K (.bool b :: vs)
  | .str :: r, K => ∃ s : ByteArray, ExS r fun vs => K (.string s :: vs)
  | .ptr :: r, K => ∃ p : Option Addr, ExS r fun vs => K (.pointer p :: vs)
  | .sl :: r, K => ∃ (p : Option Addr) (l c : Nat), ExS r fun vs => K (.slice p l c :: vs)
  | .map :: r, K => ∃ p : Option Nat, ExS r fun vs => K (.map p :: vs)
  | .flt k :: r, K => ∃ b : Nat, ExS r fun vs => K (.float k b :: vs)
  | .raw :: r, K => ∃ v : Value, ExS r fun vs => K (v :: vs)

theorem ExS.elim : ∀ {l : List Sh1} {K : List Value → Prop}, ExS l K → ∃ vs, K vs
  | [], _, h => ⟨_, h⟩
  | .int _ :: _, _, ⟨_, h⟩ => let ⟨_, g⟩ := ExS.elim h; ⟨_, g⟩
  | .bool :: _, _, ⟨_, h⟩ => let ⟨_, g⟩ := ExS.elim h; ⟨_, g⟩
  | .str :: _, _, ⟨_, h⟩ => let ⟨_, g⟩ := ExS.elim h; ⟨_, g⟩
  | .ptr :: _, _, ⟨_, h⟩ => let ⟨_, g⟩ := ExS.elim h; ⟨_, g⟩
  | .sl :: _, _, ⟨_, _, _, h⟩ => let ⟨_, g⟩ := ExS.elim h; ⟨_, g⟩
  | .map :: _, _, ⟨_, h⟩ => let ⟨_, g⟩ := ExS.elim h; ⟨_, g⟩
  | .flt _ :: _, _, ⟨_, h⟩ => let ⟨_, g⟩ := ExS.elim h; ⟨_, g⟩
  | .raw :: _, _, ⟨_, h⟩ => let ⟨_, g⟩ := ExS.elim h; ⟨_, g⟩

/-- The one-cell shapes of a type, cell by cell (none: it has no such reading within the depth). -/
def cellsSh (P : Program) : Nat → TypeId → Option (List Sh1)
  | 0, _ => none
  | d + 1, t => match P.underlying t with
    | some (.int k) => some [.int k]
    | some .bool => some [.bool]
    | some .string => some [.str]
    | some (.pointer _) => some [.ptr]
    | some (.slice _) => some [.sl]
    | some (.map _ _) => some [.map]
    | some (.float k) => some [.flt k]
    | some (.func _ _ _) => some [.raw]
    | some (.interface _) => some [.raw]
    | some (.struct fs) => fs.toList.foldr (fun f acc => match cellsSh P d f.type, acc with | some a, some b => some (a ++ b) | _, _ => none) (some [])
    | some (.array n e) => match cellsSh P d e with | some l => some ((List.replicate n l).flatten) | none => none
    | _ => none

def isAggT (P : Program) (t : TypeId) : Bool := match P.underlying t with
  | some (.struct _) => true
  | some (.array _ _) => true
  | _ => false

/-- What a call hands back. -/
def Ret (P : Program) (f : FuncId) (args : List Value) (w : World) (K : Value → World → Prop) : Prop :=
  Calls P f ⟨args⟩ w fun e w' => ∃ v, e = .returned v ∧ K v w'

theorem Ret.mono {P : Program} {f : FuncId} {args : List Value} {w : World} {K K' : Value → World → Prop} (h : Ret P f args w K) (hk : ∀ v w', K v w' → K' v w') : Ret P f args w K' :=
  Calls.mono h fun _ _ ⟨v, he, hr⟩ => ⟨v, he, hk _ _ hr⟩

end Go.V

/- The operations. -/
namespace Go.V

def wi (o : Option Value) (K : Value → Prop) : Prop := match o with
  | some v => K v
  | none => False

theorem wi_elim {o : Option Value} {K : Value → Prop} (h : wi o K) : ∃ v, o = some v ∧ K v := by
  cases o with
  | none => exact h.elim
  | some v => exact ⟨v, rfl, h⟩

def NN (p : Option Addr) (K : Addr → Prop) : Prop := match p with
  | some a => K a
  | none => False

theorem NN_elim {p : Option Addr} {K : Addr → Prop} (h : NN p K) : ∃ a, p = some a ∧ K a := by
  cases p with
  | none => exact h.elim
  | some v => exact ⟨v, rfl, h⟩

/-- The value of a type's form. -/
def ExV (P : Program) (t : TypeId) (K : Value → Prop) : Prop :=
  match cellsSh P 6 t with
  | some l => cond (isAggT P t) (cond (Nat.ble 20 l.length) (∃ vs : List Value, vs.length = l.length ∧ K (.agg ⟨vs⟩)) (ExS l fun vs => K (.agg ⟨vs⟩))) (ExS l fun vs => match vs with
      | [x] => K x
      | _ => False)
  | none => False

theorem ExV.elim {P : Program} {t : TypeId} {K : Value → Prop} (h : ExV P t K) : ∃ v, K v := by
  unfold ExV at h
  split at h
  · cases hb : isAggT P t with
    | true =>
      rw [hb] at h
      simp only [cond_true] at h
      cases hb2 : Nat.ble 20 ‹List Sh1›.length with
      | true => rw [hb2] at h; obtain ⟨vs, _, hk⟩ := h; exact ⟨_, hk⟩
      | false => rw [hb2] at h; obtain ⟨vs, hk⟩ := ExS.elim h; exact ⟨_, hk⟩
    | false =>
      rw [hb] at h
      simp only [cond_false] at h
      obtain ⟨vs, hk⟩ := ExS.elim h
      split at hk
      · exact ⟨_, hk⟩
      · exact hk.elim
  · exact h.elim

theorem ExV.sh {P : Program} {t : TypeId} {K : Value → Prop} (h : ExV P t K) : ∃ l, cellsSh P 6 t = some l := by
  unfold ExV at h
  split at h
  · exact ⟨_, ‹_›⟩
  · exact h.elim

def ExVs (P : Program) : List TypeId → (List Value → Prop) → Prop
  | [], K => K []
  | t :: ts, K => ExV P t fun x => ExVs P ts fun r => K (x :: r)

theorem ExVs.elim {P : Program} : ∀ {ts : List TypeId} {K : List Value → Prop}, ExVs P ts K → ∃ vs, K vs
  | [], _, h => ⟨_, h⟩
  | _ :: _, _, h => let ⟨_, g⟩ := ExV.elim h; let ⟨_, g'⟩ := ExVs.elim g; ⟨_, g'⟩

/-- A result of a type. -/
def Res (P : Program) (t : TypeId) (v : Value) (K : Value → Prop) : Prop :=
  match P.underlying t with
  | some (.tuple ts) => ExVs P ts.toList fun vs => v = .tuple ⟨vs⟩ ∧ K (.tuple ⟨vs⟩)
  | _ => ExV P t fun x => v = x ∧ K x

theorem Res.elim {P : Program} {t : TypeId} {v : Value} {K : Value → Prop} (h : Res P t v K) : K v := by
  unfold Res at h
  split at h
  · obtain ⟨vs, hv, hk⟩ := ExVs.elim h; rw [hv]; exact hk
  · obtain ⟨x, hv, hk⟩ := ExV.elim h; rw [hv]; exact hk

/-! ### reading -/
def CellsAt (w : World) (a : Addr) : Nat → List Value → Prop
  | _, [] => True
  | i, v :: r => w.cell? (a.add i) = some v ∧ CellsAt w a (i + 1) r

theorem run_loadCellsFrom (P : Program) (w : World) (a : Addr) : ∀ (vs : List Value) (i : Nat) (acc : Array Value), CellsAt w a i vs →
    (loadCellsFrom a i vs.length acc).run P w = .ok (acc ++ vs.toArray) w
  | [], i, acc, _ => by simp [loadCellsFrom]
  | v :: r, i, acc, ⟨h, hr⟩ => by
    have ih := run_loadCellsFrom P w a r (i + 1) (acc.push v) hr
    simp only [List.length_cons, loadCellsFrom, Sem.run_bind, run_load, h, Result.andThen, ih]
    simp

def LdW (P : Program) (t : TypeId) (w : World) (a : Addr) (K : Value → Prop) : Prop :=
  match cellsSh P 6 t with
  | some l => cond (isAggT P t)
      (cond (Nat.beq (P.cellsOf t) l.length) (cond (Nat.ble 20 l.length) (∃ vs : List Value, CellsAt w a 0 vs ∧ (vs.length = l.length ∧ K (.agg ⟨vs⟩))) (ExS l fun vs => CellsAt w a 0 vs ∧ (vs.length = l.length ∧ K (.agg ⟨vs⟩)))) False)
      (ExS l fun vs => match vs with
      | [x] => w.cell? a = some x ∧ K x
      | _ => False)
  | none => False

theorem run_typeInfo {P : Program} {t : TypeId} {i : TypeInfo} (h : P.info? t = some i) (w : World) : (typeInfo t).run P w = .ok i w := by
  simp [typeInfo, h]

theorem isAgg_run (P : Program) (t : TypeId) (w : World) (l : List Sh1) (h : cellsSh P 6 t = some l) : (isAgg t).run P w = .ok (isAggT P t) w := by
  unfold cellsSh at h
  unfold isAgg isAggT
  cases hd : P.underlying t with
  | none => simp [hd] at h
  | some d => cases d <;> simp [run_underlying hd]

theorem sizeOf_run (P : Program) (t : TypeId) (w : World) (n : Nat) (h0 : 0 < n) (h : Nat.beq (P.cellsOf t) n = true) : (sizeOf t).run P w = .ok n w := by
  have h' := Nat.eq_of_beq_eq_true h
  unfold Program.cellsOf at h'
  cases hi : P.info? t with
  | none => simp [hi] at h'; omega
  | some i => simp [hi] at h'; simp [sizeOf, run_typeInfo hi, h']

/-- What lay in w lies so in w'; nothing has gone out. -/
structure SameTo (w w' : World) : Prop where
  get : ∀ b, b < w.heap.size → w'.heap[b]? = w.heap[b]?
  os : w'.os = w.os
  output : w'.output = w.output
instance {w w' : World} : CoeFun (SameTo w w') (fun _ => ∀ b, b < w.heap.size → w'.heap[b]? = w.heap[b]?) := ⟨SameTo.get⟩
def Old (w w' : World) : Prop := w.heap.size ≤ w'.heap.size ∧ SameTo w w'

theorem Old.refl (w : World) : Old w w := ⟨Nat.le_refl _, fun _ _ => rfl, rfl, rfl⟩
theorem Old.trans {a b c : World} (h : Old a b) (k : Old b c) : Old a c :=
  ⟨Nat.le_trans h.1 k.1, fun x hx => (k.2 x (Nat.lt_of_lt_of_le hx h.1)).trans (h.2 x hx), k.2.os.trans h.2.os, k.2.output.trans h.2.output⟩
theorem Old.get {w w' : World} (h : Old w w') {b : Nat} {o : Obj} (hb : w.heap[b]? = some o) : w'.heap[b]? = some o := by
  have : b < w.heap.size := by
    rcases Nat.lt_or_ge b w.heap.size with h' | h'
    · exact h'
    · simp [Array.getElem?_eq_none h'] at hb
  rw [h.2 b this, hb]
theorem Old.cell {w w' : World} (h : Old w w') {a : Addr} {v : Value} (hc : w.cell? a = some v) : w'.cell? a = some v := by
  have hb := World.block_lt_of_cell? _ _ hc
  unfold World.cell? at *
  rw [h.2 _ hb]
  exact hc
theorem Old.cells {w w' : World} (h : Old w w') {a : Addr} : ∀ {vs : List Value} {i : Nat}, CellsAt w a i vs → CellsAt w' a i vs
  | [], _, _ => trivial
  | _ :: _, _, ⟨h1, h2⟩ => ⟨h.cell h1, h.cells h2⟩
theorem Old.of_heap {w w' : World} (h : w'.heap = w.heap) (h2 : w'.os = w.os) (h3 : w'.output = w.output) : Old w w' := ⟨by rw [h]; exact Nat.le_refl _, fun b _ => by rw [h], h2, h3⟩
theorem Old.alloc {w w' : World} (h : Old w w') (o : Obj) : Old w (w'.alloc o) :=
  ⟨by simp; have := h.1; omega, fun b hb => by
    have := h.1
    simp only [World.alloc, Array.getElem?_push]
    rw [if_neg (by omega), h.2 b hb], h.2.os, h.2.output⟩
theorem Old.drew {w w' : World} (h : Old w w') : Old w w'.drew := ⟨h.1, h.2.get, h.2.os, h.2.output⟩

theorem LdW_sound {P : Program} {t : TypeId} {w : World} {a : Addr} {K : Value → Prop} (h : LdW P t w a K) :
    ∃ v, (∀ w', Old w w' → (loadVar t a).run P w' = .ok v w') ∧ K v := by
  unfold LdW at h
  split at h
  case h_2 => exact h.elim
  rename_i l hl
  cases hb : isAggT P t with
  | true =>
    simp only [hb, cond_true] at h
    cases hs : Nat.beq (P.cellsOf t) l.length with
    | false => rw [hs] at h; exact h.elim
    | true =>
      simp only [hs, cond_true] at h
      have h' : ∃ vs, CellsAt w a 0 vs ∧ (vs.length = l.length ∧ K (.agg ⟨vs⟩)) := by
        cases hb2 : Nat.ble 20 l.length with
        | true => rw [hb2] at h; exact h
        | false => rw [hb2] at h; exact ExS.elim h
      obtain ⟨vs, hc, hlen, hk⟩ := h'
      refine ⟨_, fun w' ho => ?_, hk⟩
      have h1 := isAgg_run P t w' l hl
      unfold loadVar
      simp only [Sem.run_bind, h1, hb, Result.andThen_ok, if_true]
      have hsz : (sizeOf t).run P w' = .ok vs.length w' := by
        have he := Nat.eq_of_beq_eq_true hs
        unfold Program.cellsOf at he
        cases hi : P.info? t with
        | none =>
          exfalso
          unfold cellsSh at hl
          unfold Program.underlying at hl
          rw [hi] at hl
          simp at hl
        | some i => simp [hi] at he; simp [sizeOf, run_typeInfo hi, he, hlen]
      have h2 := run_loadCellsFrom P w' a vs 0 #[] (ho.cells hc)
      simp only [hsz, Result.andThen_ok, loadCells, h2, Sem.run_pure]
      simp
  | false =>
    simp only [hb, cond_false] at h
    obtain ⟨vs, hk⟩ := ExS.elim h
    split at hk
    case h_2 => exact hk.elim
    rename_i x
    refine ⟨x, fun w' ho => ?_, hk.2⟩
    have h1 := isAgg_run P t w' l hl
    unfold loadVar
    simp only [Sem.run_bind, h1, hb, Result.andThen_ok, Bool.false_eq_true, if_false, run_load, ho.cell hk.1]

end Go.V

/- Operations that only read. -/
namespace Go.V

/-- y is no nought. -/
def NZ (y : Int) (K : Prop) : Prop := if y = 0 then False else K
/-- y isn't below 0. -/
def N0 (y : Int) (K : Prop) : Prop := if y < 0 then False else K

theorem NZ_elim {y : Int} {K : Prop} (h : NZ y K) : y ≠ 0 ∧ K := by
  unfold NZ at h; split at h
  · exact h.elim
  · exact ⟨‹_›, h⟩
theorem N0_elim {y : Int} {K : Prop} (h : N0 y K) : ¬ y < 0 ∧ K := by
  unfold N0 at h; split at h
  · exact h.elim
  · exact ⟨‹_›, h⟩

def nilI (v : Value) (K : Bool → Prop) : Prop := match v with
  | .nilIface => K true
  | .iface _ _ => K false
  | _ => False
def nilF (v : Value) (K : Bool → Prop) : Prop := match v with
  | .nilFunc => K true
  | .func _ _ _ => K false
  | _ => False

def bitsV (op : BinOp) (k : IntKind) (x y : Int) : Option Int :=
  match op with
  | .and => some (k.wrap (BitVec.ofInt k.bits x &&& BitVec.ofInt k.bits y).toNat)
  | .or => some (k.wrap (BitVec.ofInt k.bits x ||| BitVec.ofInt k.bits y).toNat)
  | .xor => some (k.wrap (BitVec.ofInt k.bits x ^^^ BitVec.ofInt k.bits y).toNat)
  | .andNot => some (k.wrap (BitVec.ofInt k.bits x &&& ~~~(BitVec.ofInt k.bits y)).toNat)
  | _ => none

/-- 'x op y'. -/
def binQ (P : Program) (op : BinOp) (t : TypeId) (x y : Value) (K : Value → Prop) : Prop :=
  match x, y with
  | .int k a, .int k' b => match op with
    | .shl => N0 b (K (.int k (k.wrap (a * 2 ^ (min b.toNat k.bits)))))
    | .shr => N0 b (K (.int k (a.fdiv (2 ^ (min b.toNat k.bits)))))
    | .add => cond (k == k') (K (.int k (k.wrap (a + b)))) False
    | .sub => cond (k == k') (K (.int k (k.wrap (a - b)))) False
    | .mul => cond (k == k') (K (.int k (k.wrap (a * b)))) False
    | .quo => cond (k == k') (NZ b (K (.int k (k.wrap (a.tdiv b))))) False
    | .rem => cond (k == k') (NZ b (K (.int k (a.tmod b)))) False
    | .eql => cond (k == k') (K (.bool (a == b))) False
    | .neq => cond (k == k') (K (.bool (a != b))) False
    | .lss => cond (k == k') (K (.bool (decide (a < b)))) False
    | .leq => cond (k == k') (K (.bool (decide (a ≤ b)))) False
    | .gtr => cond (k == k') (K (.bool (decide (a > b)))) False
    | .geq => cond (k == k') (K (.bool (decide (a ≥ b)))) False
    | .and | .or | .xor | .andNot => cond (k == k') (match bitsV op k a b with
        | some n => K (.int k n)
        | none => False) False
  | .float k a, .float k' b => match op with
    | .eql => cond (k == k') (K (.bool (k.format.order a b == some .eq))) False
    | .neq => cond (k == k') (K (.bool (k.format.order a b != some .eq))) False
    | .lss => cond (k == k') (K (.bool (k.format.order a b == some .lt))) False
    | .leq => cond (k == k') (K (.bool (k.format.order a b == some .lt || k.format.order a b == some .eq))) False
    | .gtr => cond (k == k') (K (.bool (k.format.order a b == some .gt))) False
    | .geq => cond (k == k') (K (.bool (k.format.order a b == some .gt || k.format.order a b == some .eq))) False
    | _ => False
  | .bool a, .bool b => match P.underlying t with
    | some .bool => match op with
      | .eql => K (.bool (a == b))
      | .neq => K (.bool (!(a == b)))
      | _ => False
    | _ => False
  | .string a, .string b => match op with
    | .add => ((a.size + b.size : Nat) : Int) ≤ 9223372036854775807 ∧ K (.string (a ++ b))
    | .eql => K (.bool (a.toList == b.toList))
    | .neq => K (.bool (!(a.toList == b.toList)))
    | _ => False
  | .pointer p, .pointer none => match P.underlying t with
    | some (.pointer _) => match op with
      | .eql => K (.bool p.isNone)
      | .neq => K (.bool (!p.isNone))
      | _ => False
    | _ => False
  | .slice p _ _, .slice none _ _ => match P.underlying t with
    | some (.slice _) => match op with
      | .eql => K (.bool p.isNone)
      | .neq => K (.bool (!p.isNone))
      | _ => False
    | _ => False
  | v, .nilFunc => match P.underlying t with
    | some (.func _ _ _) => match op with
      | .eql => nilF v fun b => K (.bool b)
      | .neq => nilF v fun b => K (.bool (!b))
      | _ => False
    | _ => False
  | _, _ => False

theorem runtime_bits : IntKind.i64.max = 9223372036854775807 := by decide


theorem run_eqGuard {op : BinOp} {t : TypeId} {x y : Operand} {a b : Value} (P : Program) (w : World)
    (h : match a, b with | .nilIface, .nilIface => False | .agg _, .agg _ => False | _, _ => True) : (eqGuard op t x y a b).run P w = .ok () w := by
  unfold eqGuard
  by_cases ho : op = .eql ∨ op = .neq
  · rcases ho with rfl | rfl <;> simp only [Bool.not_true, Bool.false_eq_true, if_false] <;> split at h <;> first | exact h.elim | (split <;> first | exact h.elim | rfl | (exfalso; simp_all; done))
  · cases op <;> first | rfl | (exact absurd (Or.inl rfl) ho) | (exact absurd (Or.inr rfl) ho)

section
variable {P : Program} {t : TypeId}
theorem run_eq_bool {w : World} (a b : Bool) (h : P.underlying t = some .bool) : (Op.equal t (.bool a) (.bool b)).run P w = .ok (a == b) w := by
  have : ∀ d, (Op.equalIn (d + 1) t (.bool a) (.bool b)).run P w = .ok (a == b) w := fun d => by simp only [Op.equalIn, Sem.run_bind, run_underlying h, Result.andThen_ok, Sem.run_pure]
  exact this 9999
theorem run_eq_ptr {w : World} {e : TypeId} (a : Option Addr) (h : P.underlying t = some (.pointer e)) : (Op.equal t (.pointer a) (.pointer none)).run P w = .ok a.isNone w := by
  have : ∀ d, (Op.equalIn (d + 1) t (.pointer a) (.pointer none)).run P w = .ok a.isNone w := fun d => by
    cases a <;> simp only [Op.equalIn, Sem.run_bind, run_underlying h, Result.andThen_ok, Sem.run_pure, Option.isNone]
  exact this 9999
theorem run_eq_sl {w : World} {e : TypeId} (a : Option Addr) (l c l' c' : Nat) (h : P.underlying t = some (.slice e)) : (Op.equal t (.slice a l c) (.slice none l' c')).run P w = .ok a.isNone w := by
  have : ∀ d, (Op.equalIn (d + 1) t (.slice a l c) (.slice none l' c')).run P w = .ok a.isNone w := fun d => by
    cases a <;> simp only [Op.equalIn, Sem.run_bind, run_underlying h, Result.andThen_ok, Sem.run_pure, Option.isNone]
  exact this 9999
theorem run_eq_func1 {w : World} {a b : Array TypeId} {c : Bool} (h : P.underlying t = some (.func a b c)) : (Op.equal t .nilFunc .nilFunc).run P w = .ok true w := by
  have : ∀ d, (Op.equalIn (d + 1) t .nilFunc .nilFunc).run P w = .ok true w := fun d => by simp only [Op.equalIn, Sem.run_bind, run_underlying h, Result.andThen_ok, Sem.run_pure]
  exact this 9999
theorem run_eq_func2 {w : World} {a b : Array TypeId} {c : Bool} (f : Fn) (x y : Array Value) (h : P.underlying t = some (.func a b c)) : (Op.equal t (.func f x y) .nilFunc).run P w = .ok false w := by
  have : ∀ d, (Op.equalIn (d + 1) t (.func f x y) .nilFunc).run P w = .ok false w := fun d => by simp only [Op.equalIn, Sem.run_bind, run_underlying h, Result.andThen_ok, Sem.run_pure]
  exact this 9999
theorem run_eq_if1 {w : World} {a : Array (String × TypeId)} (h : P.underlying t = some (.interface a)) : (Op.equal t .nilIface .nilIface).run P w = .ok true w := by
  have : ∀ d, (Op.equalIn (d + 1) t .nilIface .nilIface).run P w = .ok true w := fun d => by simp only [Op.equalIn, Sem.run_bind, run_underlying h, Result.andThen_ok, Sem.run_pure]
  exact this 9999
theorem run_eq_if2 {w : World} {a : Array (String × TypeId)} (u : TypeId) (v : Value) (h : P.underlying t = some (.interface a)) : (Op.equal t (.iface u v) .nilIface).run P w = .ok false w := by
  have : ∀ d, (Op.equalIn (d + 1) t (.iface u v) .nilIface).run P w = .ok false w := fun d => by simp only [Op.equalIn, Sem.run_bind, run_underlying h, Result.andThen_ok, Sem.run_pure]
  exact this 9999
end

set_option maxHeartbeats 1000000 in
theorem binQ_sound {P : Program} {op : BinOp} {t : TypeId} {ox oy : Operand} {x y : Value} {K : Value → Prop} (h : binQ P op t x y K) :
    ∃ v, (∀ w, (do eqGuard op t ox oy x y; binOp op t x y : Sem Value).run P w = .ok v w) ∧ K v := by
  unfold binQ at h
  split at h
  · -- int, int
    rename_i k a k' b
    have g : ∀ w, (eqGuard op t ox oy (.int k a) (.int k' b)).run P w = .ok () w := fun w => run_eqGuard P w trivial
    cases op <;> simp only [] at h
    case shl => obtain ⟨h0, hk⟩ := N0_elim h; exact ⟨_, fun w => by simp only [Sem.run_bind, g, Result.andThen_ok, binOp, Op.shift, if_neg h0]; rfl, hk⟩
    case shr => obtain ⟨h0, hk⟩ := N0_elim h; exact ⟨_, fun w => by simp only [Sem.run_bind, g, Result.andThen_ok, binOp, Op.shift, if_neg h0]; rfl, hk⟩
    all_goals
      have hkk : k = k' := by
        by_cases hk : k = k'
        · exact hk
        · have : (k == k') = false := by simpa using hk
          simp [this] at h
      subst hkk
      simp only [BEq.rfl, cond_true] at h
    case quo => obtain ⟨h0, hk⟩ := NZ_elim h; exact ⟨_, fun w => by simp only [Sem.run_bind, g, Result.andThen_ok, binOp, Op.intDiv, ne_eq, not_true_eq_false, if_false, if_neg h0]; rfl, hk⟩
    case rem => obtain ⟨h0, hk⟩ := NZ_elim h; exact ⟨_, fun w => by simp only [Sem.run_bind, g, Result.andThen_ok, binOp, Op.intDiv, ne_eq, not_true_eq_false, if_false, if_neg h0]; rfl, hk⟩
    all_goals first
      | exact ⟨_, fun w => by simp only [Sem.run_bind, g, Result.andThen_ok, binOp, Op.intArith, Op.intCmp, ne_eq, not_true_eq_false, if_false]; rfl, h⟩
      | exact ⟨_, fun w => by simp only [Sem.run_bind, g, Result.andThen_ok, binOp, Op.intBits, ne_eq, not_true_eq_false, if_false]; rfl, h⟩
      | exact h.elim
  · rename_i k a k' b
    have g : ∀ w, (eqGuard op t ox oy (.float k a) (.float k' b)).run P w = .ok () w := fun w => run_eqGuard P w trivial
    cases op <;> simp only [] at h
    all_goals first
      | exact h.elim
      | skip
    all_goals
      have hkk : k = k' := by
        by_cases hk : k = k'
        · exact hk
        · have : (k == k') = false := by simpa using hk
          simp [this] at h
      subst hkk
      simp only [BEq.rfl, cond_true] at h
      exact ⟨_, fun w => by simp only [Sem.run_bind, g, Result.andThen_ok, binOp, Op.floatCmp, ne_eq, not_true_eq_false, if_false]; rfl, h⟩
  · rename_i a b
    have g : ∀ w, (eqGuard op t ox oy (.bool a) (.bool b)).run P w = .ok () w := fun w => run_eqGuard P w trivial
    split at h
    · rename_i hu
      cases op <;> simp only [] at h <;> first
        | exact h.elim
        | exact ⟨_, fun w => by simp only [Sem.run_bind, g, Result.andThen_ok, binOp, run_eq_bool _ _ hu, Sem.run_pure], h⟩
    · exact h.elim
  · rename_i a b
    have g : ∀ w, (eqGuard op t ox oy (.string a) (.string b)).run P w = .ok () w := fun w => run_eqGuard P w trivial
    cases op <;> simp only [] at h <;> first
      | exact h.elim
      | exact ⟨_, fun w => by simp only [Sem.run_bind, g, Result.andThen_ok, binOp, Op.stringOp]; rfl, h⟩
      | (obtain ⟨h0, hk⟩ := h
         refine ⟨_, fun w => ?_, hk⟩
         simp only [Sem.run_bind, g, Result.andThen_ok, binOp, Op.stringOp]
         rw [if_neg (by rw [runtime_bits]; omega)]
         rfl)
  · rename_i p
    have g : ∀ w, (eqGuard op t ox oy (.pointer p) (.pointer none)).run P w = .ok () w := fun w => run_eqGuard P w trivial
    split at h
    · rename_i hu
      cases op <;> simp only [] at h <;> first
        | exact h.elim
        | (refine ⟨_, fun w => ?_, h⟩
           simp only [Sem.run_bind, g, Result.andThen_ok, binOp, run_eq_ptr _ hu, Sem.run_pure])
    · exact h.elim
  · rename_i p l c l' c'
    have g : ∀ w, (eqGuard op t ox oy (.slice p l c) (.slice none l' c')).run P w = .ok () w := fun w => run_eqGuard P w trivial
    split at h
    · rename_i hu
      cases op <;> simp only [] at h <;> first
        | exact h.elim
        | (refine ⟨_, fun w => ?_, h⟩
           simp only [Sem.run_bind, g, Result.andThen_ok, binOp, run_eq_sl _ _ _ _ _ hu, Sem.run_pure])
    · exact h.elim
  · rename_i v
    split at h
    · rename_i hu
      cases op <;> simp only [] at h <;> first
        | exact h.elim
        | (unfold nilF at h
           split at h
           · exact ⟨_, fun w => by simp only [Sem.run_bind, run_eqGuard P w (a := .nilFunc) (b := .nilFunc) trivial, Result.andThen_ok, binOp, run_eq_func1 hu, Sem.run_pure], h⟩
           · exact ⟨_, fun w => by simp only [Sem.run_bind, run_eqGuard P w (a := .func _ _ _) (b := .nilFunc) trivial, Result.andThen_ok, binOp, run_eq_func2 _ _ _ hu, Sem.run_pure], h⟩
           · exact h.elim)
    · exact h.elim
  · exact h.elim

theorem run_guard_nil {P : Program} {w : World} {op : BinOp} {t : TypeId} {ox : Operand} : (eqGuard op t ox (.const .nilIface) .nilIface .nilIface).run P w = .ok () w := by
  unfold eqGuard
  cases op <;> simp

/-- 'v op nil' of an interface value, nil written out. -/
def nilQ (P : Program) (op : BinOp) (t : TypeId) (x : Value) (K : Value → Prop) : Prop :=
  match P.underlying t with
    | some (.interface _) => match op with
      | .eql => nilI x fun b => K (.bool b)
      | .neq => nilI x fun b => K (.bool (!b))
      | _ => False
    | _ => False

theorem nilQ_sound {P : Program} {op : BinOp} {t : TypeId} {ox : Operand} {x : Value} {K : Value → Prop} (h : nilQ P op t x K) :
    ∃ v, (∀ w, (do eqGuard op t ox (.const .nilIface) x .nilIface; binOp op t x .nilIface : Sem Value).run P w = .ok v w) ∧ K v := by
  unfold nilQ at h
  split at h
  · rename_i hu
    cases op <;> simp only [] at h <;> first
      | exact h.elim
      | (unfold nilI at h
         split at h
         · refine ⟨_, fun w => ?_, h⟩
           simp only [Sem.run_bind, run_guard_nil, Result.andThen_ok, binOp, run_eq_if1 hu, Sem.run_pure]
         · exact ⟨_, fun w => by simp only [Sem.run_bind, run_eqGuard P w (a := .iface _ _) (b := .nilIface) trivial, Result.andThen_ok, binOp, run_eq_if2 _ _ hu, Sem.run_pure], h⟩
         · exact h.elim)
  · exact h.elim
end Go.V

/- One operation that only reads: what it yields. -/
namespace Go.V

def nilCk (v : Value) (K : Value → Prop) : Prop := match v with
  | .pointer p => NN p fun a => K (.pointer (some a))
  | .iface t u => K (.iface t u)
  | .func (.func f) a b => K (.func (.func f) a b)
  | .func (.via t p f q) a b => K (.func (.via t p f q) a b)
  | .func (.methodOf t n) a b => K (.func (.methodOf t n) a b)
  | _ => False

def notQ (v : Value) (K : Value → Prop) : Prop := match v with
  | .bool b => K (.bool (!b))
  | _ => False

def negQ (v : Value) (K : Value → Prop) : Prop := match v with
  | .int k n => K (.int k (k.wrap (0 - n)))
  | .float k b => K (.float k (Op.negFloat k b))
  | _ => False

def convQ (P : Program) (s d : TypeId) (v : Value) (K : Value → Prop) : Prop := match P.underlying s with
  | some _ => match P.underlying d, v with
    | some (.int k), .int _ n => K (.int k (k.wrap n))
    | some (.float k), .int _ n => K (.float k (k.nearest n))
    | some .string, .string s => K (.string s)
    | _, _ => False
  | none => False

def fieldQ (P : Program) (s : TypeId) (v : Value) (f : Nat) (K : Value → Prop) : Prop := match P.underlying s with
  | some (.struct fs) => match fs[f]?, v with
    | some fl, .pointer p => NN p fun a => cond (Nat.beq (P.cellsOf fl.type) 0) False (K (.pointer (some (a.add fl.offset))))
    | _, _ => False
  | _ => False

/-- A part of an aggregate. -/
def partQ (P : Program) (t : TypeId) (cs : List Value) (off : Nat) (K : Value → Prop) : Prop :=
  match P.underlying t with
  | some (.struct _) | some (.array _ _) => K (.agg ⟨(cs.drop off).take (P.cellsOf t)⟩)
  | some _ => ExV P t fun x => cs[off]? = some x ∧ K x
  | none => False

def fieldVQ (P : Program) (s : TypeId) (v : Value) (f : Nat) (K : Value → Prop) : Prop := match P.underlying s with
  | some (.struct fs) => match fs[f]?, v with
    | some fl, .agg cs => partQ P fl.type cs.toList fl.offset K
    | _, _ => False
  | _ => False

/-- a moved on by i elements of so many cells. -/
def Addr.at_ (a : Addr) (i : Int) (c : Nat) : Addr := a.add (i.toNat * c)

def ixQ (P : Program) (t : TypeId) (x i : Value) (K : Value → Prop) : Prop := match P.underlying t, x, i with
  | some (.slice el), .slice p len _, .int _ n => 0 ≤ n ∧ n < (len : Int) ∧ NN p fun a => cond (Nat.beq (P.cellsOf el) 0) False (K (.pointer (some (Addr.at_ a n (P.cellsOf el)))))
  | some (.array len el), .pointer p, .int _ n => 0 ≤ n ∧ n < (len : Int) ∧ NN p fun a => cond (Nat.beq (P.cellsOf el) 0) False (K (.pointer (some (Addr.at_ a n (P.cellsOf el)))))
  | _, _, _ => False

/-- v is the value of one cell. -/
def One (v : Value) (K : Prop) : Prop := match v with
  | .agg _ => False
  | .tuple _ => False
  | _ => K
theorem One_elim {v : Value} {K : Prop} (h : One v K) : v.cells = #[v] ∧ K := by
  cases v <;> first | exact h.elim | exact ⟨rfl, h⟩

/-- l has n cells. -/
def LenIs (n : Nat) (l : List Value) (K : Prop) : Prop := cond (Nat.beq n l.length) K False
theorem LenIs_elim {n : Nat} {l : List Value} {K : Prop} (h : LenIs n l K) : n = l.length ∧ K := by
  unfold LenIs at h
  cases hb : Nat.beq n l.length with
  | true => rw [hb] at h; exact ⟨Nat.eq_of_beq_eq_true hb, h⟩
  | false => rw [hb] at h; exact h.elim

/-- The cells of a value of a type. -/
def cellsQ (P : Program) (t : TypeId) (v : Value) (K : List Value → Prop) : Prop :=
  cond (isAggT P t) (match v with
    | .agg cs => K cs.toList
    | _ => False) (One v (K [v]))
theorem cellsQ_elim {P : Program} {t : TypeId} {v : Value} {K : List Value → Prop} (h : cellsQ P t v K) : ∃ l, v.cells = ⟨l⟩ ∧ K l := by
  unfold cellsQ at h
  cases hb : isAggT P t with
  | true =>
    rw [hb] at h
    simp only [cond_true] at h
    split at h
    · exact ⟨_, rfl, h⟩
    · exact h.elim
  | false => rw [hb] at h; obtain ⟨h1, h3⟩ := One_elim h; exact ⟨_, h1, h3⟩

def ixVQ (P : Program) (t : TypeId) (x i : Value) (K : Value → Prop) : Prop := match P.underlying t, x, i with
  | some .string, .string s, .int _ n => ∃ b : UInt8, (0 ≤ n ∧ s[n.toNat]? = some b) ∧ K (.int .u8 b.toNat)
  | some (.array len el), .agg cs, .int _ n => 0 ≤ n ∧ n < (len : Int) ∧ cond (Nat.beq (P.cellsOf el) 0) False (ExV P el fun x => cellsQ P el x fun l => l = (cs.toList.drop (n.toNat * P.cellsOf el)).take (P.cellsOf el) ∧ K x)
  | _, _, _ => False

/-- A bound of a slice expression: given, or not. -/
def bound (v : Option Value) (d : Nat) (K : Int → Prop) : Prop := match v with
  | none => K d
  | some (.int _ n) => K n
  | some _ => False

def slV (p : Option Addr) (l h m : Int) (c : Nat) : Value := .slice (if m.toNat = l.toNat then p else p.map (·.add (l.toNat * c))) (h.toNat - l.toNat) (m.toNat - l.toNat)

def slQ (P : Program) (t : TypeId) (x : Value) (lo hi mx : Option Value) (K : Value → Prop) : Prop := match P.underlying t, x with
  | some .string, .string s => match mx with
    | none => bound hi s.size fun h => bound lo 0 fun l => 0 ≤ l ∧ l ≤ h ∧ h ≤ (s.size : Int) ∧ K (.string (s.extract l.toNat h.toNat))
    | some _ => False
  | some (.slice el), .slice p len cap => bound mx cap fun m => bound hi len fun h => bound lo 0 fun l =>
      0 ≤ l ∧ l ≤ h ∧ h ≤ m ∧ m ≤ (cap : Int) ∧ cond (Nat.beq (P.cellsOf el) 0) False (K (slV p l h m (P.cellsOf el)))
  | some (.array n el), .pointer p => match mx with
    | none => bound hi n fun h => bound lo 0 fun l => 0 ≤ l ∧ l ≤ h ∧ h ≤ (n : Int) ∧ NN p fun a => cond (Nat.beq (P.cellsOf el) 0) False (K (slV (some a) l h n (P.cellsOf el)))
    | some _ => False
  | _, _ => False

def extQ (v : Value) (i : Nat) (K : Value → Prop) : Prop := match v with
  | .tuple vs => match vs[i]? with
    | some x => K x
    | none => False
  | _ => False

def mkIQ (P : Program) (t : TypeId) (v : Value) (K : Value → Prop) : Prop := match P.underlying t with
  | some (.interface _) => False
  | none => False
  | some _ => K (.iface t v)

def lenQ (P : Program) (t : TypeId) (x : Value) (K : Value → Prop) : Prop := match P.underlying t, x with
  | some .string, .string s => K (.int .i64 s.size)
  | some (.slice _), .slice _ n _ => K (.int .i64 n)
  | some (.array n _), _ => K (.int .i64 n)
  | _, _ => False

def minQ (x y : Value) (K : Value → Prop) : Prop := match x, y with
  | .int k a, .int _ b => K (.int k (if b < a then b else a))
  | _, _ => False
def maxQ (x y : Value) (K : Value → Prop) : Prop := match x, y with
  | .int k a, .int _ b => K (.int k (if b > a then b else a))
  | _, _ => False

/-- What a map of ints to ints has. -/
def MapGet (w : World) (r : Nat) (k : IntKind) (key : Int) (k' : IntKind) (n : Int) (b : Bool) : Prop :=
  ∃ es clock, w.heap[r]? = some (.map es clock) ∧
    ((∃ i, Instr.findNow (.int k) (.int k key) es.toList 0 = some (some (i, .int k' n)) ∧ b = true) ∨ (Instr.findNow (.int k) (.int k key) es.toList 0 = some none ∧ n = 0 ∧ b = false))

def NM (p : Option Nat) (K : Nat → Prop) : Prop := match p with
  | some r => K r
  | none => False
theorem NM_elim {p : Option Nat} {K : Nat → Prop} (h : NM p K) : ∃ a, p = some a ∧ K a := by
  cases p with
  | none => exact h.elim
  | some v => exact ⟨v, rfl, h⟩

def lkQ (P : Program) (t : TypeId) (x i : Value) (ok : Bool) (w : World) (K : Value → Prop) : Prop := match P.underlying t, x, i with
  | some (.map kt et), .map p, .int k key => NM p fun r => match P.underlying kt, P.info? et with
    | some (.int k0), some inf => match P.underlying et, inf.zero with
      | some (.int k'), some (.int k1 0) => cond (k == k0) (cond (k1 == k') (∃ n b, MapGet w r k key k' n b ∧ cond ok (K (.tuple #[.int k' n, .bool b])) (K (.int k' n))) False) False
      | _, _ => False
    | _, _ => False
  | _, _, _ => False

def nilFQ (P : Program) (op : BinOp) (t : TypeId) (x : Value) (K : Value → Prop) : Prop :=
  match P.underlying t with
    | some (.func _ _ _) => match op with
      | .eql => nilF x fun b => K (.bool b)
      | .neq => nilF x fun b => K (.bool (!b))
      | _ => False
    | _ => False

def evo (e : Env) : Option Operand → Option (Option Value)
  | none => some none
  | some x => match ev e x with
    | some v => some (some v)
    | none => none

def wo (o : Option (Option Value)) (K : Option Value → Prop) : Prop := match o with
  | some v => K v
  | none => False

def opQ (P : Program) (e : Env) (op : Op) (w : World) (K : Value → Prop) : Prop :=
  match op with
  | .move x => wi (ev e x) K
  | .assign x => wi (ev e x) K
  | .pick c a b => match ev e c with
    | some (.bool t) => cond t (wi (ev e a) K) (wi (ev e b) K)
    | _ => False
  | .load t a => match ev e a with
    | some (.pointer p) => NN p fun ad => LdW P t w ad K
    | _ => False
  | .nilCheck x => wi (ev e x) fun v => nilCk v K
  | .binOp op t x y _ => match y with
    | .const .nilIface => wi (ev e x) fun a => nilQ P op t a K
    | .const .nilFunc => wi (ev e x) fun a => nilFQ P op t a K
    | y => wi (ev e x) fun a => wi (ev e y) fun b => binQ P op t a b K
  | .unOp .not _ x => wi (ev e x) fun v => notQ v K
  | .unOp .neg _ x => wi (ev e x) fun v => negQ v K
  | .convert s d x => wi (ev e x) fun v => convQ P s d v K
  | .fieldAddr s x f => wi (ev e x) fun v => fieldQ P s v f K
  | .field s x f => wi (ev e x) fun v => fieldVQ P s v f K
  | .indexAddr t x i => wi (ev e x) fun v => wi (ev e i) fun n => ixQ P t v n K
  | .index t x i => wi (ev e x) fun v => wi (ev e i) fun n => ixVQ P t v n K
  | .slice t x lo hi mx => wi (ev e x) fun v => wo (evo e lo) fun l => wo (evo e hi) fun h => wo (evo e mx) fun m => slQ P t v l h m K
  | .extract x i => wi (ev e x) fun v => extQ v i K
  | .makeInterface t x => wi (ev e x) fun v => mkIQ P t v K
  | .makeFunc fn a b => match evs e a.toList, evs e b.toList with
    | some x, some y => K (.func fn ⟨x⟩ ⟨y⟩)
    | _, _ => False
  | .lookup t x i ok => wi (ev e x) fun v => wi (ev e i) fun n => lkQ P t v n ok w K
  | .call ⟨.builtin .len, ⟨[x]⟩, ⟨[t]⟩⟩ => wi (ev e x) fun v => lenQ P t v K
  | .call ⟨.builtin .min, ⟨[x, y]⟩, _⟩ => wi (ev e x) fun a => wi (ev e y) fun b => minQ a b K
  | .call ⟨.builtin .max, ⟨[x, y]⟩, _⟩ => wi (ev e x) fun a => wi (ev e y) fun b => maxQ a b K
  | _ => False
end Go.V

/- The soundness of what one operation that only reads yields. -/
namespace Go.V

/-- It only reads memory. -/
def memOp : Op → Bool
  | .load .. | .lookup .. => true
  | _ => false

/-- Operation o, its operands read by ρ, yields v in every world in which what lay in w lies. -/
def Yld (P : Program) (ρ : Operand → Value) (o : Oper) (w : World) (K : Value → Prop) : Prop :=
  ∃ v, (∀ w', (memOp o.op = true → Old w w') → (execOp ρ o).run P w' = .ok (.value v) w') ∧ K v

theorem Yld.of_sem {P : Program} {ρ : Operand → Value} {o : Oper} {w : World} {K : Value → Prop} {s : Sem Value} (hm : memOp o.op = true) (he : execOp ρ o = (do pure (.value (← s))))
    (h : ∃ v, (∀ w', Old w w' → s.run P w' = .ok v w') ∧ K v) : Yld P ρ o w K := by
  obtain ⟨v, h1, h2⟩ := h
  exact ⟨v, fun w' ho => by rw [he]; simp only [Sem.run_bind, h1 w' (ho hm), Result.andThen_ok, Sem.run_pure], h2⟩

theorem Yld.of_pure {P : Program} {ρ : Operand → Value} {o : Oper} {w : World} {K : Value → Prop} {s : Sem Value} (he : execOp ρ o = (do pure (.value (← s))))
    (h : ∃ v, (∀ w', s.run P w' = .ok v w') ∧ K v) : Yld P ρ o w K :=
  let ⟨v, h1, h2⟩ := h
  ⟨v, fun w' _ => by rw [he]; simp only [Sem.run_bind, h1 w', Result.andThen_ok, Sem.run_pure], h2⟩

section
variable {P : Program} {K : Value → Prop}

theorem fieldQ_sound {s : TypeId} {v : Value} {f : Nat} (h : fieldQ P s v f K) : ∃ u, (∀ w, (Instr.fieldAt s v f).run P w = .ok u w) ∧ K u := by
  unfold fieldQ at h
  split at h
  case h_2 => exact h.elim
  rename_i fs hu
  split at h
  case h_2 => exact h.elim
  rename_i fl p hf
  obtain ⟨a, rfl, h⟩ := NN_elim h
  cases hb : Nat.beq (P.cellsOf fl.type) 0 with
  | true => rw [hb] at h; exact h.elim
  | false =>
    rw [hb] at h
    have hne : P.cellsOf fl.type ≠ 0 := fun e => by rw [e] at hb; cases hb
    unfold Program.cellsOf at hne
    cases hi : P.info? fl.type with
    | none => simp [hi] at hne
    | some i =>
      simp [hi] at hne
      exact ⟨_, fun w => by simp [Instr.fieldAt, Instr.sureAddr, fieldPlace, sizeOf, run_underlying hu, hf, run_typeInfo hi, hne], h⟩

def aggD : TypeDesc → Bool
  | .struct _ => true
  | .array _ _ => true
  | _ => false
theorem isAgg_of {t : TypeId} {w : World} {d : TypeDesc} (h : P.underlying t = some d) : (isAgg t).run P w = .ok (aggD d) w := by
  unfold isAgg
  simp only [Sem.run_bind, run_underlying h, Result.andThen_ok]
  cases d <;> rfl

theorem partQ_sound {t : TypeId} {cs : Array Value} {off : Nat} (h : partQ P t cs.toList off K) : ∃ u, (∀ w, (part t cs off).run P w = .ok u w) ∧ K u := by
  have key : ∀ d, P.underlying t = some d → aggD d = true → K (.agg ⟨(cs.toList.drop off).take (P.cellsOf t)⟩) → ∃ u, (∀ w, (part t cs off).run P w = .ok u w) ∧ K u := by
    intro d hu hd hk
    refine ⟨_, fun w => ?_, hk⟩
    cases hi : P.info? t with
    | none => unfold Program.underlying at hu; rw [hi] at hu; simp at hu
    | some i =>
      have h1 := isAgg_of (P := P) (w := w) hu
      have h2 : P.cellsOf t = i.size := by simp [Program.cellsOf, hi]
      unfold part
      simp only [Sem.run_bind, h1, hd, Result.andThen_ok, if_true, sizeOf, run_typeInfo hi, Sem.run_pure, h2]
      congr 2
      apply Array.ext'
      simp [Array.toList_extract, List.extract, List.take_drop]
  unfold partQ at h
  split at h
  · rename_i hu; exact key _ hu rfl h
  · rename_i hu; exact key _ hu rfl h
  · rename_i d h1 h2 hu
    obtain ⟨v, hv, h⟩ := ExV.elim h
    refine ⟨v, fun w => ?_, h⟩
    have h3 := isAgg_of (P := P) (w := w) hu
    have hd : aggD d = false := by
      cases d <;> first | rfl | (exact (h1 _ rfl).elim) | (exact (h2 _ _ rfl).elim)
    have hv' : cs[off]? = some v := by simpa using hv
    unfold part
    simp only [Sem.run_bind, h3, hd, Result.andThen_ok, Bool.false_eq_true, if_false, hv', Sem.run_pure]
  · exact h.elim

theorem fieldVQ_sound {s : TypeId} {v : Value} {f : Nat} (h : fieldVQ P s v f K) : ∃ u, (∀ w, (Instr.field s v f).run P w = .ok u w) ∧ K u := by
  unfold fieldVQ at h
  split at h
  case h_2 => exact h.elim
  rename_i fs hu
  split at h
  case h_2 => exact h.elim
  rename_i fl cs hf
  obtain ⟨u, h1, h2⟩ := partQ_sound h
  exact ⟨u, fun w => by simp [Instr.field, run_underlying hu, hf, asAgg, h1], h2⟩

theorem sizeOf_of {t : TypeId} (hb : Nat.beq (P.cellsOf t) 0 = false) (w : World) : (sizeOf t).run P w = .ok (P.cellsOf t) w := by
  have hne : P.cellsOf t ≠ 0 := fun e => by rw [e] at hb; cases hb
  unfold Program.cellsOf at hne ⊢
  cases hi : P.info? t with
  | none => simp [hi] at hne
  | some i => simp [sizeOf, run_typeInfo hi]

theorem ixQ_sound {t : TypeId} {x i : Value} (h : ixQ P t x i K) : ∃ u, (∀ w, (Instr.indexAt t x i).run P w = .ok u w) ∧ K u := by
  unfold ixQ at h
  split at h
  · rename_i el p len cap k n hu
    obtain ⟨h0, h1, h⟩ := h
    obtain ⟨a, rfl, h⟩ := NN_elim h
    cases hb : Nat.beq (P.cellsOf el) 0 with
    | true => rw [hb] at h; exact h.elim
    | false =>
      rw [hb] at h
      exact ⟨_, fun w => by simp [Instr.indexAt, asIntOf, run_underlying hu, h0, h1, sizeOf_of hb, Addr.at_], h⟩
  · rename_i len el p k n hu
    obtain ⟨h0, h1, h⟩ := h
    obtain ⟨a, rfl, h⟩ := NN_elim h
    cases hb : Nat.beq (P.cellsOf el) 0 with
    | true => rw [hb] at h; exact h.elim
    | false =>
      rw [hb] at h
      exact ⟨_, fun w => by simp [Instr.indexAt, asIntOf, run_underlying hu, h0, h1, sizeOf_of hb, Addr.at_, Instr.sureAddr], h⟩
  · exact h.elim

theorem ixVQ_sound {t : TypeId} {x i : Value} (h : ixVQ P t x i K) : ∃ u, (∀ w, (Instr.index t x i).run P w = .ok u w) ∧ K u := by
  unfold ixVQ at h
  split at h
  · rename_i s k n hu
    obtain ⟨b, ⟨h0, h1⟩, h⟩ := h
    exact ⟨_, fun w => by simp [Instr.index, asIntOf, run_underlying hu, h0, h1], h⟩
  · rename_i len el cs k n hu
    obtain ⟨h0, h1, h⟩ := h
    cases hb : Nat.beq (P.cellsOf el) 0 with
    | true => rw [hb] at h; exact h.elim
    | false =>
      rw [hb] at h
      simp only [cond_false] at h
      obtain ⟨lsh, hlsh⟩ := ExV.sh h
      obtain ⟨x, h⟩ := ExV.elim h
      have hne : P.cellsOf el ≠ 0 := fun e => by rw [e] at hb; cases hb
      refine ⟨x, fun w => ?_, ?_⟩
      · suffices hp : (part el cs (n.toNat * P.cellsOf el)).run P w = .ok x w by
          simp [Instr.index, asIntOf, run_underlying hu, h0, h1, sizeOf_of hb, hp]
        cases hi : P.info? el with
        | none => exact absurd (by simp [Program.cellsOf, hi]) hne
        | some inf =>
          have hsz : (sizeOf el).run P w = .ok (P.cellsOf el) w := sizeOf_of hb w
          have hag := isAgg_run P el w lsh hlsh
          unfold cellsQ at h
          cases hia : isAggT P el with
          | true =>
            rw [hia] at h
            simp only [cond_true] at h
            split at h
            · rename_i vs
              obtain ⟨hl, _⟩ := h
              unfold part
              simp only [Sem.run_bind, hag, hia, Result.andThen_ok, if_true, hsz, Sem.run_pure]
              congr 2
              apply Array.ext'
              simp [Array.toList_extract, List.extract, hl]
            · exact h.elim
          | false =>
            rw [hia] at h
            obtain ⟨_, hl, _⟩ := One_elim h
            have hlen := congrArg List.length hl
            simp only [List.length_cons, List.length_nil, List.length_take, List.length_drop, Array.length_toList] at hlen
            have hg : cs[n.toNat * P.cellsOf el]? = some x := by
              have h2 := congrArg (fun l => l[0]?) hl
              simp only [List.getElem?_cons_zero] at h2
              rw [List.getElem?_take_of_lt (by omega), List.getElem?_drop] at h2
              simpa using h2.symm
            unfold part
            simp only [Sem.run_bind, hag, hia, Result.andThen_ok, Bool.false_eq_true, if_false, hg, Sem.run_pure]
      · obtain ⟨l, _, _, hk⟩ := cellsQ_elim h
        exact hk
  · exact h.elim

theorem bound_run {v : Option Value} {d : Nat} {C : Int → Prop} (h : bound v d C) : ∃ n : Int, C n ∧ ((v = none ∧ n = d) ∨ ∃ k, v = some (.int k n)) := by
  unfold bound at h
  split at h
  · exact ⟨_, h, .inl ⟨rfl, rfl⟩⟩
  · exact ⟨_, h, .inr ⟨_, rfl⟩⟩
  · exact h.elim

theorem run_sliceBound {x : Value} {k : IntKind} {n : Int} {y : Nat} {c : BoundsCode} (hx : x = .int k n) (h0 : 0 ≤ n) (h1 : n ≤ (y : Int)) (w : World) : (Instr.sliceBound x y c).run P w = .ok n.toNat w := by
  subst hx
  simp [Instr.sliceBound, asIntOf, h0, h1]

theorem run_sliceBounds {b : Bool} {len cap : Nat} {lo hi mx : Option Value} {l h m : Int} (hlo : (lo = none ∧ l = (0 : Nat)) ∨ ∃ k, lo = some (.int k l)) (hhi : (hi = none ∧ h = len) ∨ ∃ k, hi = some (.int k h))
    (hmx : (mx = none ∧ m = cap) ∨ ∃ k, mx = some (.int k m)) (hm : mx = none ∨ hi ≠ none) (h0 : 0 ≤ l) (h1 : l ≤ h) (h2 : h ≤ m) (h3 : m ≤ (cap : Int)) (w : World) :
    (Instr.sliceBounds b len cap lo hi mx).run P w = .ok (l.toNat, h.toNat, m.toNat) w := by
  unfold Instr.sliceBounds
  rcases hmx with ⟨rfl, rfl⟩ | ⟨k, rfl⟩
  · rcases hhi with ⟨rfl, rfl⟩ | ⟨k', rfl⟩
    · rcases hlo with ⟨rfl, rfl⟩ | ⟨k'', rfl⟩
      · simp
      · simp [run_sliceBound rfl h0 h1]
    · have e := run_sliceBound (P := P) (x := .int k' h) (y := cap) (c := if b then .sliceAcap else .sliceAlen) rfl (by omega) (by omega) w
      rcases hlo with ⟨rfl, rfl⟩ | ⟨k'', rfl⟩
      · simp [e]
      · simp [e, run_sliceBound (P := P) (x := .int k'' l) (y := h.toNat) (c := .sliceB) rfl h0 (by omega)]
  · have hhi' : hi ≠ none := hm.resolve_left (by simp)
    rcases hhi with ⟨rfl, _⟩ | ⟨k', rfl⟩
    · exact absurd rfl hhi'
    · have e1 := run_sliceBound (P := P) (x := .int k m) (y := cap) (c := if b then .slice3Acap else .slice3Alen) rfl (by omega) h3 w
      have e2 := run_sliceBound (P := P) (x := .int k' h) (y := m.toNat) (c := .slice3B) rfl (by omega) (by omega) w
      rcases hlo with ⟨rfl, rfl⟩ | ⟨k'', rfl⟩
      · simp [e1, e2]
      · simp [e1, e2, run_sliceBound (P := P) (x := .int k'' l) (y := h.toNat) (c := .slice3C) rfl h0 (by omega)]

theorem slQ_sound {t : TypeId} {x : Value} {lo hi mx : Option Value} (hm : mx = none ∨ hi ≠ none) (h : slQ P t x lo hi mx K) : ∃ u, (∀ w, (Instr.sliceAt t x lo hi mx).run P w = .ok u w) ∧ K u := by
  unfold slQ at h
  split at h
  · rename_i s hu
    split at h
    case h_2 => exact h.elim
    obtain ⟨hh, h, e1⟩ := bound_run h
    obtain ⟨l, h, e2⟩ := bound_run h
    obtain ⟨h0, h1, h2, hk⟩ := h
    refine ⟨_, fun w => ?_, hk⟩
    have e := run_sliceBounds (P := P) (b := false) (len := s.size) (cap := s.size) (mx := none) (m := s.size) e2 e1 (.inl ⟨rfl, rfl⟩) (.inl rfl) h0 h1 h2 (Int.le_refl _) w
    simp [Instr.sliceAt, Instr.slice, run_underlying hu, e]
  · rename_i el p len cap hu
    obtain ⟨m, h, e3⟩ := bound_run h
    obtain ⟨hh, h, e1⟩ := bound_run h
    obtain ⟨l, h, e2⟩ := bound_run h
    obtain ⟨h0, h1, h2, h3, h⟩ := h
    cases hb : Nat.beq (P.cellsOf el) 0 with
    | true => rw [hb] at h; exact h.elim
    | false =>
      rw [hb] at h
      refine ⟨_, fun w => ?_, h⟩
      have e := run_sliceBounds (P := P) (b := true) (len := len) (cap := cap) e2 e1 e3 hm h0 h1 h2 h3 w
      simp [Instr.sliceAt, Instr.slice, run_underlying hu, e, sizeOf_of hb, slV]
  · rename_i n el p hu
    split at h
    case h_2 => exact h.elim
    obtain ⟨hh, h, e1⟩ := bound_run h
    obtain ⟨l, h, e2⟩ := bound_run h
    obtain ⟨h0, h1, h2, h⟩ := h
    obtain ⟨a, rfl, h⟩ := NN_elim h
    cases hb : Nat.beq (P.cellsOf el) 0 with
    | true => rw [hb] at h; exact h.elim
    | false =>
      rw [hb] at h
      refine ⟨_, fun w => ?_, h⟩
      have e := run_sliceBounds (P := P) (b := false) (len := n) (cap := n) (mx := none) (m := n) e2 e1 (.inl ⟨rfl, rfl⟩) (.inl rfl) h0 h1 h2 (Int.le_refl _) w
      simp only [Instr.sliceAt, Sem.run_bind, run_underlying hu, Result.andThen_ok, Instr.sureAddr, Sem.run_pure, e, sizeOf_of hb, slV]
      simp only [Int.toNat_natCast, Option.map_some]
      split <;> rfl
  · exact h.elim
end
end Go.V

/- Any operation that only reads. -/
namespace Go.V

theorem evo_agrees {n : Nat} {ds : List Deferred} {e : Env} {a : Act} (ha : Agrees n ds e a) {o : Option Operand} {K : Option Value → Prop} (h : wo (evo e o) K) : K (o.map a.eval) := by
  unfold evo at h
  split at h
  · exact h
  · rename_i x
    cases hv : ev e x with
    | none => rw [hv] at h; exact h.elim
    | some v => rw [hv] at h; simp only [Option.map_some, ha.ev hv]; exact h

theorem wi_agrees {n : Nat} {ds : List Deferred} {e : Env} {a : Act} (ha : Agrees n ds e a) {x : Operand} {K : Value → Prop} (h : wi (ev e x) K) : K (a.eval x) := by
  obtain ⟨v, h1, h2⟩ := wi_elim h
  rw [ha.ev h1]; exact h2

theorem lkQ_sound {P : Program} {t : TypeId} {x i : Value} {ok : Bool} {w : World} {K : Value → Prop} (h : lkQ P t x i ok w K) :
    ∃ v, (∀ w', Old w w' → (Instr.lookup t x i ok).run P w' = .ok v w') ∧ K v := by
  unfold lkQ at h
  split at h
  case h_2 => exact h.elim
  rename_i kt et p k key hu
  obtain ⟨r, rfl, h⟩ := NM_elim h
  split at h
  case h_2 => exact h.elim
  rename_i k0 inf hk hi
  split at h
  case h_2 => exact h.elim
  rename_i k' k1 he hz
  cases hb : (k == k0) with
  | false => rw [hb] at h; exact h.elim
  | true =>
  rw [hb] at h
  simp only [cond_true] at h
  cases hb1 : (k1 == k') with
  | false => rw [hb1] at h; exact h.elim
  | true =>
  rw [hb1] at h
  simp only [cond_true] at h
  have e1 : k = k0 := by simpa using hb
  have e2 : k1 = k' := by simpa using hb1
  subst e1; subst e2
  obtain ⟨n, b, ⟨es, clock, hw, hg⟩, h⟩ := h
  have hck : ∀ w', (Instr.checkKey es.isEmpty 10000 kt (.int k key)).run P w' = .ok () w' := fun w' => by
    have : ∀ d, (Instr.checkKey es.isEmpty (d + 1) kt (.int k key)).run P w' = .ok () w' := fun d => by
      simp only [Instr.checkKey, Sem.run_bind, run_underlying hk, Result.andThen_ok, Sem.run_pure]
    exact this 9999
  have hfk : ∀ w' res, Instr.findNow (.int k) (.int k key) es.toList 0 = some res → (Instr.findKey kt (.int k key) es.toList).run P w' = .ok res w' := fun w' res hr => by
    unfold Instr.findKey
    simp only [Sem.run_bind, run_underlying hk, Result.andThen_ok, hr, Sem.run_pure]
  have hgo : ∀ w', Old w w' → (getObj r).run P w' = .ok (.map es clock) w' := fun w' ho => by
    have := ho.get hw
    simp [getObj, Sem.run, this]
  rcases hg with ⟨j, hj, rfl⟩ | ⟨hj, rfl, rfl⟩
  · refine ⟨if ok then .tuple #[.int k1 n, .bool true] else .int k1 n, fun w' ho => ?_, by cases ok <;> exact h⟩
    unfold Instr.lookup
    simp only [Sem.run_bind, run_underlying hu, Result.andThen_ok, hgo w' ho, Sem.run_pure, hck, hfk w' _ hj]
  · refine ⟨if ok then .tuple #[.int k1 0, .bool false] else .int k1 0, fun w' ho => ?_, by cases ok <;> exact h⟩
    unfold Instr.lookup
    simp only [Sem.run_bind, run_underlying hu, Result.andThen_ok, hgo w' ho, Sem.run_pure, hck, hfk w' _ hj, zeroValue, run_typeInfo hi, hz]

set_option maxHeartbeats 1000000 in
theorem opQ_sound {P : Program} {n : Nat} {ds : List Deferred} {e : Env} {a : Act} (ha : Agrees n ds e a) {o : Oper} {w : World} {K : Value → Prop} (hm : ∀ t x lo mx, o.op = .slice t x lo none (some mx) → False) (h : opQ P e o.op w K) : Yld P a.eval o w K := by
  unfold opQ at h
  split at h
  · rename_i x he
    exact ⟨_, fun w' _ => by simp [execOp, he], wi_agrees ha h⟩
  · rename_i x he
    exact ⟨_, fun w' _ => by simp [execOp, he], wi_agrees ha h⟩
  · rename_i c x y he
    split at h
    case h_2 => exact h.elim
    rename_i t hc
    have e1 := ha.ev hc
    cases t with
    | true => exact ⟨_, fun w' _ => by simp [execOp, he, e1, asBool], wi_agrees ha h⟩
    | false => exact ⟨_, fun w' _ => by simp [execOp, he, e1, asBool], wi_agrees ha h⟩
  · rename_i t x he
    split at h
    case h_2 => exact h.elim
    rename_i p hp
    obtain ⟨ad, rfl, h⟩ := NN_elim h
    have e1 := ha.ev hp
    obtain ⟨v, h1, h2⟩ := LdW_sound h
    exact ⟨v, fun w' ho => by simp [execOp, he, e1, Instr.loadAt, Instr.sureAddr, h1 w' (ho (by rw [he]; rfl))], h2⟩
  · rename_i x he
    have h' := wi_agrees ha h
    unfold nilCk at h'
    split at h'
    · rename_i p hp
      obtain ⟨ad, rfl, h'⟩ := NN_elim h'
      exact ⟨_, fun w' _ => by simp [execOp, he, hp], h'⟩
    all_goals first
      | exact h'.elim
      | (rename_i hp; exact ⟨_, fun w' _ => by simp [execOp, he, hp], h'⟩)
  · rename_i op t x y yt he
    split at h
    · have h' := wi_agrees ha h
      obtain ⟨v, h1, h2⟩ := nilQ_sound (ox := x) h'
      exact Yld.of_pure (s := (do eqGuard op t x (.const .nilIface) (a.eval x) .nilIface; binOp op t (a.eval x) .nilIface)) (by simp [execOp, he, Act.eval]) ⟨v, h1, h2⟩
    · have h' := wi_agrees ha h
      have h'' : binQ P op t (a.eval x) .nilFunc K := by
        unfold nilFQ at h'
        unfold binQ
        cases hx : a.eval x <;> rw [hx] at h' <;> exact h'
      obtain ⟨v, h1, h2⟩ := binQ_sound (ox := x) (oy := .const .nilFunc) h''
      exact Yld.of_pure (s := (do eqGuard op t x (.const .nilFunc) (a.eval x) .nilFunc; binOp op t (a.eval x) .nilFunc)) (by simp [execOp, he, Act.eval]) ⟨v, h1, h2⟩
    · have h' := wi_agrees ha (wi_agrees ha h)
      obtain ⟨v, h1, h2⟩ := binQ_sound (ox := x) (oy := y) h'
      exact Yld.of_pure (s := (do eqGuard op t x y (a.eval x) (a.eval y); binOp op t (a.eval x) (a.eval y))) (by simp [execOp, he]) ⟨v, h1, h2⟩
  · rename_i t x he
    have h' := wi_agrees ha h
    unfold notQ at h'
    split at h'
    · rename_i b hb
      exact ⟨_, fun w' _ => by simp [execOp, he, hb, Op.unary], h'⟩
    · exact h'.elim
  · rename_i t x he
    have h' := wi_agrees ha h
    unfold negQ at h'
    split at h'
    · rename_i k b hb
      exact ⟨_, fun w' _ => by simp [execOp, he, hb, Op.unary, Op.intArith], h'⟩
    · rename_i k b hb
      exact ⟨_, fun w' _ => by simp [execOp, he, hb, Op.unary], h'⟩
    · exact h'.elim
  · rename_i s d x he
    have h' := wi_agrees ha h
    unfold convQ at h'
    split at h'
    case h_2 => exact h'.elim
    rename_i ds hs
    split at h'
    · rename_i k k1 m hu hb
      exact ⟨_, fun w' _ => by simp [execOp, he, hb, convert, run_underlying hu, run_underlying hs, Conv.intToInt], h'⟩
    · rename_i k k1 m hu hb
      exact ⟨_, fun w' _ => by simp [execOp, he, hb, convert, run_underlying hu, run_underlying hs, Conv.intToFloat], h'⟩
    · rename_i s hu hb
      exact ⟨_, fun w' _ => by simp [execOp, he, hb, convert, run_underlying hu, run_underlying hs], h'⟩
    · exact h'.elim
  · rename_i s x f he
    have h' := wi_agrees ha h
    exact Yld.of_pure (s := Instr.fieldAt s (a.eval x) f) (by simp [execOp, he]) (fieldQ_sound h')
  · rename_i s x f he
    have h' := wi_agrees ha h
    exact Yld.of_pure (s := Instr.field s (a.eval x) f) (by simp [execOp, he]) (fieldVQ_sound h')
  · rename_i t x i he
    have h' := wi_agrees ha (wi_agrees ha h)
    exact Yld.of_pure (s := Instr.indexAt t (a.eval x) (a.eval i)) (by simp [execOp, he]) (ixQ_sound h')
  · rename_i t x i he
    have h' := wi_agrees ha (wi_agrees ha h)
    exact Yld.of_pure (s := Instr.index t (a.eval x) (a.eval i)) (by simp [execOp, he]) (ixVQ_sound h')
  · rename_i t x lo hi mx he
    have h' := evo_agrees ha (evo_agrees ha (evo_agrees ha (wi_agrees ha h)))
    refine Yld.of_pure (s := Instr.sliceAt t (a.eval x) (lo.map a.eval) (hi.map a.eval) (mx.map a.eval)) (by simp [execOp, he]) (slQ_sound ?_ h')
    cases mx with
    | none => exact .inl rfl
    | some m =>
      cases hi with
      | none => exact (hm _ _ _ _ he).elim
      | some v => exact .inr (by simp)
  · rename_i x i he
    have h' := wi_agrees ha h
    unfold extQ at h'
    split at h'
    case h_2 => exact h'.elim
    rename_i vs hv
    split at h'
    case h_2 => exact h'.elim
    rename_i u hu
    exact ⟨u, fun w' _ => by simp [execOp, he, hv, Instr.extract, hu], h'⟩
  · rename_i t x he
    have h' := wi_agrees ha h
    unfold mkIQ at h'
    split at h'
    · exact h'.elim
    · exact h'.elim
    · rename_i d h1 hu
      refine ⟨_, fun w' _ => ?_, h'⟩
      have : (Instr.makeInterface t (a.eval x)).run P w' = .ok (.iface t (a.eval x)) w' := by
        unfold Instr.makeInterface
        simp only [Sem.run_bind, run_underlying hu, Result.andThen_ok]
        cases d <;> first | rfl | exact (h1 _ rfl).elim
      simp [execOp, he, this]
  · rename_i fn x y he
    split at h
    · rename_i xs ys h1 h2
      refine ⟨_, fun w' _ => ?_, h⟩
      have e1 := ha.evs h1
      have e2 := ha.evs h2
      have e1' : x.map a.eval = ⟨xs⟩ := by apply Array.ext'; simpa using e1
      have e2' : y.map a.eval = ⟨ys⟩ := by apply Array.ext'; simpa using e2
      simp [execOp, he, Instr.makeFunc, e1', e2']
    · exact h.elim
  · rename_i t x i ok he
    have h' := wi_agrees ha (wi_agrees ha h)
    exact Yld.of_sem (s := Instr.lookup t (a.eval x) (a.eval i) ok) (by rw [he]; rfl) (by simp [execOp, he]) (lkQ_sound h')
  · rename_i x t he
    have h' := wi_agrees ha h
    unfold lenQ at h'
    split at h'
    · rename_i s hu hx
      exact ⟨_, fun w' _ => by simp [execOp, he, resolve, invoke, builtin, Builtin.len_, hx, run_underlying hu, goInt], h'⟩
    · rename_i el p m c hu hx
      exact ⟨_, fun w' _ => by simp [execOp, he, resolve, invoke, builtin, Builtin.len_, hx, run_underlying hu, goInt], h'⟩
    · rename_i m el hu
      exact ⟨_, fun w' _ => by simp [execOp, he, resolve, invoke, builtin, Builtin.len_, run_underlying hu, goInt], h'⟩
    · exact h'.elim
  · rename_i x y ts he
    have h' := wi_agrees ha (wi_agrees ha h)
    unfold minQ at h'
    split at h'
    · rename_i k p k' q hx hy
      exact ⟨_, fun w' _ => by simp [execOp, he, resolve, invoke, builtin, Builtin.min_, hx, hy, Builtin.min2], h'⟩
    · exact h'.elim
  · rename_i x y ts he
    have h' := wi_agrees ha (wi_agrees ha h)
    unfold maxQ at h'
    split at h'
    · rename_i k p k' q hx hy
      exact ⟨_, fun w' _ => by simp [execOp, he, resolve, invoke, builtin, Builtin.max_, hx, hy, Builtin.max2], h'⟩
    · exact h'.elim
  · exact h.elim
end Go.V

/- Operations that write, make memory, or call. -/
namespace Go.V

/-! ### stores -/
def St (w : World) (a : Addr) (v : Value) (K : World → Prop) : Prop := One v ((∃ u, w.cell? a = some u) ∧ w.frozen? a = false ∧ K (w.setCell a v))
def Sts (a : Addr) : Nat → List Value → World → (World → Prop) → Prop
  | _, [], w, K => K w
  | i, v :: r, w, K => St w (a.add i) v fun w' => Sts a (i + 1) r w' K
def StW (P : Program) (t : TypeId) (w : World) (a : Addr) (v : Value) (K : World → Prop) : Prop :=
  cellsQ P t v fun l => LenIs (P.cellsOf t) l (Sts a 0 l w K)

theorem St_sound {P : Program} {w : World} {a : Addr} {v : Value} {K : World → Prop} (h : St w a v K) : (store a v).run P w = .ok () (w.setCell a v) ∧ K (w.setCell a v) := by
  obtain ⟨_, ⟨u, hu⟩, hf, hk⟩ := One_elim h
  refine ⟨?_, hk⟩
  cases v <;> first | exact h.elim | simp [store, Sem.run, hu, hf]

theorem Sts_sound {P : Program} {a : Addr} {K : World → Prop} : ∀ {l : List Value} {i : Nat} {w : World}, Sts a i l w K → ∃ w', (storeCells a l i).run P w = .ok () w' ∧ K w'
  | [], _, w, h => ⟨w, by simp [storeCells], h⟩
  | v :: r, i, w, h => by
    obtain ⟨h1, h2⟩ := St_sound (P := P) h
    obtain ⟨w', h3, h4⟩ := Sts_sound (P := P) h2
    exact ⟨w', by simp [storeCells, h1, h3], h4⟩

theorem sizeOf_len {P : Program} {t : TypeId} {n : Nat} (hu : ∃ i, P.info? t = some i) (hb : Nat.beq (P.cellsOf t) n = true) (w : World) : (sizeOf t).run P w = .ok n w := by
  obtain ⟨i, hi⟩ := hu
  have he := Nat.eq_of_beq_eq_true hb
  simp [Program.cellsOf, hi] at he
  simp [sizeOf, run_typeInfo hi, he]

theorem info_of_agg {P : Program} {t : TypeId} (h : isAggT P t = true) : ∃ i, P.info? t = some i := by
  unfold isAggT Program.underlying at h
  cases hi : P.info? t with
  | none => simp [hi] at h
  | some i => exact ⟨i, rfl⟩

theorem StW_sound {P : Program} {t : TypeId} {w : World} {a : Addr} {v : Value} {K : World → Prop} (h : StW P t w a v K) : ∃ w', (storeVar t a v).run P w = .ok () w' ∧ K w' := by
  unfold StW at h
  obtain ⟨l, hl, hk⟩ := cellsQ_elim h
  obtain ⟨he, hk⟩ := LenIs_elim hk
  have hb : Nat.beq (P.cellsOf t) l.length = true := by rw [he]; exact Nat.beq_refl _
  · obtain ⟨w', h1, h2⟩ := Sts_sound (P := P) hk
    have hi : ∃ i, P.info? t = some i := by
      cases hx : P.info? t with
      | some i => exact ⟨i, rfl⟩
      | none =>
        exfalso
        unfold cellsQ at h
        have : isAggT P t = false := by
          cases hb : isAggT P t with
          | false => rfl
          | true => obtain ⟨i, hi⟩ := info_of_agg hb; rw [hi] at hx; cases hx
        rw [this] at h
        obtain ⟨hc, _⟩ := One_elim h
        rw [hc] at hl
        have hl' : l = [v] := by simpa using (congrArg Array.toList hl).symm
        rw [hl'] at hb
        simp [Program.cellsOf, hx] at hb
    refine ⟨w', ?_, h2⟩
    have hs := sizeOf_len hi hb w
    simp only [storeVar, Sem.run_bind, hs, Result.andThen_ok, hl]
    simp [h1]

/-! ### aggregates -/
/-- The parts of an aggregate are laid into cells. -/
def fillQ (P : Program) (place : Nat → Option (Nat × TypeId)) : List (Nat × Value) → List Value → (List Value → Prop) → Prop
  | [], cs, K => K cs
  | (i, v) :: r, cs, K => match place i with
    | some (off, t) => cellsQ P t v fun l => LenIs (P.cellsOf t) l (cond (Nat.ble (off + l.length) cs.length) (fillQ P place r (cs.take off ++ l ++ cs.drop (off + l.length)) K) False)
    | none => False

theorem foldl_splice (off : Nat) : ∀ (l : List Value) (k : Nat) (cs : Array Value), off + k + l.length ≤ cs.size →
    ((l.zipIdx k).foldl (fun cs (c, j) => cs.setIfInBounds (off + j) c) cs).toList = cs.toList.take (off + k) ++ l ++ cs.toList.drop (off + k + l.length)
  | [], k, cs, h => by simp
  | v :: l, k, cs, h => by
    simp only [List.length_cons] at h
    have ih := foldl_splice off l (k + 1) (cs.setIfInBounds (off + k) v) (by simp; omega)
    simp only [List.zipIdx_cons, List.foldl_cons, ih]
    have hlt : off + k < cs.toList.length := by simp; omega
    simp only [Array.toList_setIfInBounds, List.length_cons]
    rw [show off + (k + 1) = off + k + 1 by omega, List.take_succ_eq_append_getElem (by simpa using hlt)]
    rw [List.take_set_of_le (by omega), List.getElem_set_self, List.drop_set_of_lt (by omega)]
    rw [show off + k + 1 + l.length = off + k + (l.length + 1) by omega]
    simp

theorem fillQ_sound {P : Program} {place : Nat → Option (Nat × TypeId)} {pl : Nat → Option (Nat × Nat)} (hp : ∀ i off t, place i = some (off, t) → pl i = some (off, P.cellsOf t)) {K : List Value → Prop} :
    ∀ {parts : List (Nat × Value)} {cs : List Value}, fillQ P place parts cs K → ∃ out, Instr.fill pl ⟨cs⟩ parts = some ⟨out⟩ ∧ K out
  | [], cs, h => ⟨cs, rfl, h⟩
  | (i, v) :: r, cs, h => by
    unfold fillQ at h
    split at h
    case h_2 => exact h.elim
    rename_i off t hpl
    obtain ⟨l, hl, h⟩ := cellsQ_elim h
    obtain ⟨he, h⟩ := LenIs_elim h
    cases hb2 : Nat.ble (off + l.length) cs.length with
    | false => rw [hb2] at h; exact h.elim
    | true =>
    rw [hb2] at h
    simp only [cond_true] at h
    obtain ⟨out, h1, h2⟩ := fillQ_sound hp h
    refine ⟨out, ?_, h2⟩
    have hle := Nat.le_of_ble_eq_true hb2
    unfold Instr.fill
    simp only [hp i off t hpl, hl, he]
    have hsz : (⟨l⟩ : Array Value).size = l.length := rfl
    have hsz2 : (⟨cs⟩ : Array Value).size = cs.length := rfl
    rw [if_neg (by simp only [hsz, hsz2, ne_eq, not_true_eq_false, decide_false, Bool.false_or, decide_eq_true_eq]; omega)]
    have hf := foldl_splice off l 0 ⟨cs⟩ (by simp only [hsz2]; omega)
    simp only [Nat.add_zero] at hf
    have hz : ((⟨l⟩ : Array Value).zipIdx.foldl (fun cs (x : Value × Nat) => cs.setIfInBounds (off + x.2) x.1) (⟨cs⟩ : Array Value)) = ⟨cs.take off ++ l ++ cs.drop (off + l.length)⟩ := by
      apply Array.ext'
      rw [← Array.foldl_toList, Array.toList_zipIdx]
      exact hf
    rw [hz]
    exact h1

theorem run_mapM_list {α β : Type} {P : Program} {w : World} {f : α → Sem β} {g : α → β} : ∀ (l : List α), (∀ x ∈ l, (f x).run P w = .ok (g x) w) → (l.mapM f).run P w = .ok (l.map g) w
  | [], _ => by simp
  | x :: l, h => by
    have h1 := h x (by simp)
    have h2 := run_mapM_list l (fun y hy => h y (by simp [hy]))
    simp [List.mapM_cons, h1, h2]

theorem run_mapM_arr {α β : Type} {P : Program} {w : World} {f : α → Sem β} {g : α → β} (l : Array α) (h : ∀ x ∈ l, (f x).run P w = .ok (g x) w) : (l.mapM f).run P w = .ok (l.map g) w := by
  rw [Array.mapM_eq_mapM_toList]
  have := run_mapM_list (P := P) (w := w) (f := f) (g := g) l.toList (fun x hx => h x (by simpa using hx))
  simp only [Sem.run_map, this, Result.andThen_ok]
  congr 1
  apply Array.ext'
  simp

def buildQ (P : Program) (t : TypeId) (parts : List (Nat × Value)) (K : Value → Prop) : Prop :=
  match P.info? t with
  | some inf => match P.underlying t, inf.zero with
    | some (.struct fs), some z => cond (fs.toList.all fun f => (P.info? f.type).isSome) (fillQ P (fun i => match fs[i]? with
        | some f => some (f.offset, f.type)
        | none => none) parts z.cells.toList fun out => K (.agg ⟨out⟩)) False
    | some (.array _ el), some z => cond (P.info? el).isSome (fillQ P (fun i => some (i * P.cellsOf el, el)) parts z.cells.toList fun out => K (.agg ⟨out⟩)) False
    | _, _ => False
  | none => False

theorem run_zero {P : Program} {t : TypeId} {inf : TypeInfo} {z : Value} (hi : P.info? t = some inf) (hz : inf.zero = some z) (w : World) : (zeroValue t).run P w = .ok z w := by
  simp [zeroValue, run_typeInfo hi, hz]

theorem sizeOf_info {P : Program} {t : TypeId} (h : (P.info? t).isSome = true) (w : World) : (sizeOf t).run P w = .ok (P.cellsOf t) w := by
  cases hi : P.info? t with
  | none => simp [hi] at h
  | some i => simp [sizeOf, run_typeInfo hi, Program.cellsOf, hi]

theorem buildQ_sound {P : Program} {t : TypeId} {parts : List (Nat × Value)} {K : Value → Prop} (h : buildQ P t parts K) : ∃ v, (∀ w, (Instr.build t ⟨parts⟩).run P w = .ok v w) ∧ K v := by
  unfold buildQ at h
  split at h
  case h_2 => exact h.elim
  rename_i inf hi
  split at h
  · rename_i fs z hu hz
    cases hb : (fs.toList.all fun f => (P.info? f.type).isSome) with
    | false => rw [hb] at h; exact h.elim
    | true =>
    rw [hb] at h
    simp only [cond_true] at h
    obtain ⟨out, h1, h2⟩ := fillQ_sound (pl := fun i => (fs.map fun f => (f.offset, P.cellsOf f.type))[i]?) (fun i off u hp => by
      split at hp
      · rename_i f hf
        cases hp
        simp [hf]
      · cases hp) h
    refine ⟨_, fun w => ?_, h2⟩
    have hm := run_mapM_arr (P := P) (w := w) (f := fun f : Field => (do pure (f.offset, ← sizeOf f.type) : Sem (Nat × Nat))) (g := fun f => (f.offset, P.cellsOf f.type)) fs (fun f hf => by
      have := (List.all_eq_true.1 hb) f (by simpa using hf)
      simp [sizeOf_info this])
    unfold Instr.build
    simp only [Sem.run_bind, run_zero hi hz, Result.andThen_ok, run_underlying hu]
    simp only [hm, Result.andThen_ok]
    simp only [h1]
    rfl
  · rename_i m el z hu hz
    cases hb : (P.info? el).isSome with
    | false => rw [hb] at h; exact h.elim
    | true =>
    rw [hb] at h
    simp only [cond_true] at h
    obtain ⟨out, h1, h2⟩ := fillQ_sound (pl := fun i => some (i * P.cellsOf el, P.cellsOf el)) (fun i off u hp => by cases hp; rfl) h
    refine ⟨_, fun w => ?_, h2⟩
    unfold Instr.build
    simp only [Sem.run_bind, run_zero hi hz, Result.andThen_ok, run_underlying hu, sizeOf_info hb]
    simp only [h1]
    rfl
  · exact h.elim
end Go.V

/- All operations. -/
namespace Go.V

/-- n times the cells of a zero value. -/
def reps (n : Nat) (z : List Value) : List Value := match z with
  | [x] => List.replicate n x
  | z => (List.replicate n z).flatten

theorem flatten_replicate_getElem (z : List Value) : ∀ (n i : Nat), i < n * z.length → (List.replicate n z).flatten[i]? = z[i % z.length]?
  | 0, i, h => by simp at h
  | n + 1, i, h => by
    rw [List.replicate_succ, List.flatten_cons]
    by_cases hi : i < z.length
    · rw [List.getElem?_append_left hi, Nat.mod_eq_of_lt hi]
    · have hi' : z.length ≤ i := by omega
      rw [List.getElem?_append_right hi', flatten_replicate_getElem z n (i - z.length) (by rw [Nat.add_mul] at h; omega), Nat.mod_eq_sub_mod hi']

theorem reps_eq (n : Nat) (z : Array Value) : ((Array.range (n * z.size)).map (z[· % z.size]!)) = ⟨reps n z.toList⟩ := by
  apply Array.ext'
  have key : reps n z.toList = (List.replicate n z.toList).flatten := by
    unfold reps
    split
    · rename_i x hx
      rw [hx]
      clear hx
      induction n with
      | zero => rfl
      | succ n ih => rw [List.replicate_succ, List.replicate_succ, List.flatten_cons, ← ih]; rfl
    · rfl
  simp only [key]
  apply List.ext_getElem?
  intro i
  by_cases hi : i < n * z.size
  · rw [flatten_replicate_getElem _ _ _ (by simpa using hi)]
    have hz : 0 < z.size := by
      rcases Nat.eq_zero_or_pos z.size with h | h
      · rw [h] at hi; simp at hi
      · exact h
    have hm : i % z.size < z.size := Nat.mod_lt _ hz
    simp [hi, hm]
  · have h1 : (List.replicate n z.toList).flatten.length = n * z.size := by simp
    rw [List.getElem?_eq_none (by simp; omega), List.getElem?_eq_none (by rw [h1]; omega)]

/-- Memory made new. -/
def NewW (cells : List Value) (t : TypeId) (w : World) (K : Addr → World → Prop) : Prop := K ⟨w.heap.size, 0, none⟩ (w.alloc (.cells ⟨cells⟩ t))

def boxW (t : TypeId) (v : Value) (w : World) (K : Value → World → Prop) : Prop := NewW v.cells.toList t w fun a w' => K (.pointer (some a)) w'
def allocW (P : Program) (t : TypeId) (w : World) (K : Value → World → Prop) : Prop := match P.info? t with
  | some i => match i.zero with
    | some z => NewW z.cells.toList t w fun a w' => K (.pointer (some a)) w'
    | none => False
  | none => False

def bsW (P : Program) (t : TypeId) (n : Nat) (parts : List (Nat × Value)) (w : World) (K : Value → World → Prop) : Prop := match P.underlying t with
  | some (.slice el) => match P.info? el with
    | some i => match i.zero with
      | some z => cond (Nat.beq i.size 0) False (cond (Nat.beq z.cells.size i.size) (cond (Nat.ble (n * i.size) 16777216)
          (fillQ P (fun k => some (k * P.cellsOf el, el)) parts (reps n z.cells.toList) fun out => NewW out el w fun a w' => K (.slice (some a) n n) w') False) False)
      | none => False
    | none => False
  | _ => False

def mkSW (P : Program) (t : TypeId) (l c : Value) (w : World) (K : Value → World → Prop) : Prop := match P.underlying t with
  | some (.slice el) => match P.info? el, l, c with
    | some i, .int .i64 l, .int .i64 c => match i.zero with
      | some z => cond (Nat.beq i.size 0) False (cond (Nat.beq z.cells.size i.size) (0 ≤ l ∧ l ≤ c ∧ c * i.bytes ≤ 140737488355328 ∧ c ≤ 9223372036854775807 ∧ NewW (reps c.toNat z.cells.toList) el w fun a w' => K (.slice (some a) l.toNat c.toNat) w') False)
      | none => False
    | _, _, _ => False
  | _ => False

def World.setObj (w : World) (r : Nat) (o : Obj) : World := { w with heap := w.heap.setIfInBounds r o }

/-- A new key of a map of ints. -/
def muW (P : Program) (t : TypeId) (m k x : Value) (w : World) (K : World → Prop) : Prop := match P.underlying t, m, k with
  | some (.map kt _), .map p, .int kk key => NM p fun r => match P.underlying kt with
    | some (.int k0) => cond (kk == k0) (∃ es clock, w.heap[r]? = some (.map es clock) ∧ Instr.findNow (.int kk) (.int kk key) es.toList 0 = some none ∧
        K (World.setObj w r (.map (es.push { key := .int kk key, val := x, born := clock }) (clock + 1)))) False
    | _ => False
  | _, _, _ => False

def ApW (P : Program) (t1 t2 : TypeId) (s x : Value) (w : World) (K : Option Addr → Nat → Nat → World → Prop) : Prop :=
  ∃ p l c w', (∀ ty, (Builtin.append_ #[t1, t2] ty #[s, x]).run P w = .ok (.slice p l c) w') ∧ K p l c w'
def CpW (P : Program) (t1 t2 : TypeId) (s x : Value) (w : World) (K : Int → World → Prop) : Prop :=
  ∃ n w', (∀ ty, (Builtin.copy_ #[t1, t2] ty #[s, x]).run P w = .ok (.int .i64 n) w') ∧ K n w'
def ClW (P : Program) (t1 : TypeId) (s : Value) (w : World) (K : World → Prop) : Prop :=
  ∃ w', (∀ ty, (Builtin.clear_ #[t1] ty #[s]).run P w = .ok (.tuple #[]) w') ∧ K w'
def FqW (P : Program) (k : FloatKind) (a b : Nat) (w : World) (K : Nat → World → Prop) : Prop :=
  ∃ r w', (Op.floatArith .quo k a b).run P w = .ok (.float k r) w' ∧ K r w'
def EqW (P : Program) (t : TypeId) (x y : Value) (K : Bool → Prop) : Prop :=
  ∃ b, (∀ op ox oy w', (eqGuard op t ox oy x y).run P w' = .ok () w') ∧ (∀ w', (Op.equal t x y).run P w' = .ok b w') ∧ K b

def hasBody (P : Program) (f : FuncId) : Bool := match P.funcs[f]? with
  | some fn => fn.body.isSome && !(fn.name == "runtime.NumGoroutine")
  | none => false

/-- A function without a body that only reckons. -/
def ExtW (P : Program) (f : FuncId) (args : List Value) (K : Value → Prop) : Prop := ∃ v, (∀ w, (callFunc f ⟨args⟩).run P w = .ok (.value v) w) ∧ K v

/-- The yield of a loop, called. -/
def YieldW (P : Program) (l : Nat) (args : List Value) (w : World) (K : Value → World → Prop) : Prop :=
  ∃ f tmps asg body, (Instr.yield l ⟨args⟩).run P w = .ok (.round l f tmps asg body) w ∧ RoundIn Fence.wide 0 P l f tmps asg body w fun e w' => ∃ v, e = .returned v ∧ K v w'

/-- A function value, called (y: a yield may be called, too). -/
def CvW (P : Program) (y : Bool) (fv : Value) (args : List Value) (w : World) (K : Value → World → Prop) : Prop := match fv with
  | .func (.func f) first cap => cond (hasBody P f) (Ret P f (first.toList ++ args ++ cap.toList) w K) False
  | .func (.yield l) first _ => cond y (YieldW P l (first.toList ++ args) w K) False
  | _ => False
def InvW (P : Program) (rv : Value) (name : String) (args : List Value) (w : World) (K : Value → World → Prop) : Prop := match rv with
  | .iface t v => ∃ f u, (method (P.types.size + Made.depth) t v name).run P w = .ok (f, u) w ∧ hasBody P f = true ∧ Ret P f (u :: args) w K
  | _ => False

def wl (o : Option (List Value)) (K : List Value → Prop) : Prop := match o with
  | some v => K v
  | none => False

/-- A quiet operation, or the making of an aggregate. -/
def opR (P : Program) (e : Env) (op : Op) (w : World) (K : Value → Prop) : Prop := match op with
  | .build t parts => wl (evs e (parts.toList.map (·.2))) fun vs => buildQ P t (List.zip (parts.toList.map (·.1)) vs) K
  | .binOp .eql t x y yt => match ev e y, ev e x with
    | some (.agg b), some (.agg a) => EqW P t (.agg a) (.agg b) fun r => K (.bool r)
    | _, _ => opQ P e (.binOp .eql t x y yt) w K
  | .binOp .neq t x y yt => match ev e y, ev e x with
    | some (.agg b), some (.agg a) => EqW P t (.agg a) (.agg b) fun r => K (.bool !r)
    | _, _ => opQ P e (.binOp .neq t x y yt) w K
  | op => opQ P e op w K

def callW (P : Program) (y : Bool) (e : Env) (c : Call) (ty : TypeId) (w : World) (K : Value → World → Prop) : Option Prop := match c with
  | ⟨.value (.func f), args, _⟩ => some (cond (hasBody P f) (wl (evs e args.toList) fun vs => Ret P f vs w fun v w' => Res P ty v fun v' => K v' w') (wl (evs e args.toList) fun vs => ExtW P f vs fun v => Res P ty v fun v' => K v' w))
  | ⟨.value x, args, _⟩ => some (wi (ev e x) fun fv => wl (evs e args.toList) fun vs => CvW P y fv vs w fun v w' => Res P ty v fun v' => K v' w')
  | ⟨.invoke r name, args, _⟩ => some (wi (ev e r) fun rv => wl (evs e args.toList) fun vs => InvW P rv name vs w fun v w' => Res P ty v fun v' => K v' w')
  | ⟨.builtin .append, ⟨[s, x]⟩, ⟨[t1, t2]⟩⟩ => some (wi (ev e s) fun sv => wi (ev e x) fun xv => ApW P t1 t2 sv xv w fun p l c w' => K (.slice p l c) w')
  | ⟨.builtin .copy, ⟨[s, x]⟩, ⟨[t1, t2]⟩⟩ => some (wi (ev e s) fun sv => wi (ev e x) fun xv => CpW P t1 t2 sv xv w fun n w' => K (.int .i64 n) w')
  | ⟨.builtin .clear, ⟨[s]⟩, ⟨[t1]⟩⟩ => some (wi (ev e s) fun sv => ClW P t1 sv w fun w' => K (.tuple #[]) w')
  | _ => none

/-- A row of bytes, made a string. -/
def CvS (P : Program) (a b : TypeId) (v : Value) (w : World) (K : ByteArray → Prop) : Prop := ∃ s, (Go.convert a b v).run P w = .ok (.string s) w ∧ K s

def opW (P : Program) (y : Bool) (e : Env) (op : Op) (ty : TypeId) (w : World) (K : Value → World → Prop) : Prop := match op with
  | .store t a x => match ev e a with
    | some (.pointer p) => NN p fun ad => wi (ev e x) fun v => StW P t w ad v fun w' => K undef w'
    | _ => False
  | .box t x => wi (ev e x) fun v => boxW t v w K
  | .alloc t => allocW P t w K
  | .buildSlice t n parts => wl (evs e (parts.toList.map (·.2))) fun vs => bsW P t n (List.zip (parts.toList.map (·.1)) vs) w K
  | .makeSlice t l c => wi (ev e l) fun l => wi (ev e c) fun c => mkSW P t l c w K
  | .makeMap _ none => K (.map (some w.heap.size)) (w.alloc (.map #[] 0))
  | .mapUpdate t m k x => wi (ev e m) fun m => wi (ev e k) fun k => wi (ev e x) fun x => muW P t m k x w fun w' => K undef w'
  | .call c => match callW P y e c ty w K with
    | some p => p
    | none => opR P e (.call c) w fun v => K v w
  | .convert a b x => match ev e x with
    | some (.slice p l c) => CvS P a b (.slice p l c) w fun s => K (.string s) w
    | _ => opR P e (.convert a b x) w fun v => K v w
  | .binOp .quo t x z yt => match ev e x, ev e z with
    | some (.float k a), some (.float k' b) => cond (k == k') (FqW P k a b w fun r w' => K (.float k r) w') False
    | _, _ => opR P e (.binOp .quo t x z yt) w fun v => K v w
  | op => opR P e op w fun v => K v w

end Go.V

/- The soundness of any operation. -/
namespace Go.V

section
variable {P : Program} {n : Nat} {ds : List Deferred} {e : Env} {a : Act} {o : Oper} {w : World} {Q : Exit → Act → World → Prop} {next : Act → World → Prop}

theorem wl_agrees (ha : Agrees n ds e a) {xs : List Operand} {K : List Value → Prop} (h : wl (evs e xs) K) : K (xs.map a.eval) := by
  unfold wl at h
  split at h
  · rename_i v hv; rw [ha.evs hv]; exact h
  · exact h.elim

theorem pairs_eval (ps : Array (Nat × Operand)) (ρ : Operand → Value) : (ps.map fun (i, x) => (i, ρ x)) = ⟨List.zip (ps.toList.map (·.1)) ((ps.toList.map (·.2)).map ρ)⟩ := by
  apply Array.ext'
  simp only [Array.toList_map]
  induction ps.toList with
  | nil => rfl
  | cons x r ih => simp [ih]

theorem opR_sound (ha : Agrees n ds e a) {K : Value → Prop} (hm : ∀ t x lo mx, o.op = .slice t x lo none (some mx) → False) (h : opR P e o.op w K) : Yld P a.eval o w K := by
  unfold opR at h
  split at h
  · rename_i t parts he
    have h' := wl_agrees ha h
    obtain ⟨v, h1, h2⟩ := buildQ_sound h'
    refine ⟨v, fun w' _ => ?_, h2⟩
    simp only [execOp, he, pairs_eval, Sem.run_bind, h1, Result.andThen_ok, Sem.run_pure]
  · rename_i t x y yt he
    split at h
    · rename_i p q h2 h1
      obtain ⟨b, g1, g2, g3⟩ := h
      exact ⟨_, fun w' _ => by simp only [execOp, he, ha.ev h1, ha.ev h2, binOp, Sem.run_bind, g1, g2, Result.andThen_ok, Sem.run_pure], g3⟩
    · rw [← he] at h; exact opQ_sound ha hm h
  · rename_i t x y yt he
    split at h
    · rename_i p q h2 h1
      obtain ⟨b, g1, g2, g3⟩ := h
      exact ⟨_, fun w' _ => by simp only [execOp, he, ha.ev h1, ha.ev h2, binOp, Sem.run_bind, g1, g2, Result.andThen_ok, Sem.run_pure], g3⟩
    · rw [← he] at h; exact opQ_sound ha hm h
  · exact opQ_sound ha hm h

theorem wp_of_yld {K : Value → World → Prop} (h : Yld P a.eval o w fun v => K v w) (hK : ∀ v w', K v w' → next (a.put o.dst v) w') : o.wp P a w next Q := by
  obtain ⟨v, h1, h2⟩ := h
  simp only [Oper.wp, h1 w (fun _ => Old.refl w), Oper.upon]
  exact hK _ _ h2

theorem wp_of_value {K : Value → World → Prop} {v : Value} {w' : World} (he : (execOp a.eval o).run P w = .ok (.value v) w') (h : K v w') (hK : ∀ v w', K v w' → next (a.put o.dst v) w') : o.wp P a w next Q := by
  simp only [Oper.wp, he, Oper.upon]
  exact hK _ _ h

theorem wp_of_skip {K : Value → World → Prop} {w' : World} (he : (execOp a.eval o).run P w = .ok .skip w') (h : K undef w') (hK : ∀ v w', K v w' → next (a.put o.dst v) w') : o.wp P a w next Q := by
  simp only [Oper.wp, he, Oper.upon]
  exact hK _ _ h

theorem callFunc_run {f : FuncId} {args : Array Value} (hb : hasBody P f = true) : (callFunc f args).run P w = .ok (.enter f args) w := by
  unfold hasBody at hb
  split at hb
  · rename_i fn hf
    simp only [Bool.and_eq_true, Bool.not_eq_true', Option.isSome_iff_exists] at hb
    obtain ⟨⟨c, hc⟩, hn⟩ := hb
    have hn' : fn.name ≠ "runtime.NumGoroutine" := by simpa using hn
    simp [callFunc, program, Sem.run, hf, hn', hc]
  · cases hb

theorem wp_of_ret {K : Value → World → Prop} {f : FuncId} {args : List Value} (he : (execOp a.eval o).run P w = .ok (.enter f ⟨args⟩) w) (h : Ret P f args w K) (hK : ∀ v w', K v w' → next (a.put o.dst v) w') : o.wp P a w next Q := by
  simp only [Oper.wp, he, Oper.upon]
  refine Calls.mono h fun e' w' ⟨v, hv, hk⟩ => ?_
  subst hv
  exact hK _ _ hk

theorem bsW_sound {t : TypeId} {m : Nat} {parts : List (Nat × Value)} {K : Value → World → Prop} (h : bsW P t m parts w K) : ∃ v w', (Instr.buildSlice t m ⟨parts⟩).run P w = .ok v w' ∧ K v w' := by
  unfold bsW at h
  split at h
  case h_2 => exact h.elim
  rename_i el hu
  split at h
  case h_2 => exact h.elim
  rename_i i hi
  split at h
  case h_2 => exact h.elim
  rename_i z hz
  cases h0 : Nat.beq i.size 0 with
  | true => rw [h0] at h; exact h.elim
  | false =>
  rw [h0] at h
  simp only [cond_false] at h
  cases h1 : Nat.beq z.cells.size i.size with
  | false => rw [h1] at h; exact h.elim
  | true =>
  rw [h1] at h
  simp only [cond_true] at h
  cases h2 : Nat.ble (m * i.size) 16777216 with
  | false => rw [h2] at h; exact h.elim
  | true =>
  rw [h2] at h
  simp only [cond_true] at h
  have e1 := Nat.eq_of_beq_eq_true h1
  have e2 := Nat.le_of_ble_eq_true h2
  have e0 : i.size ≠ 0 := fun e => by rw [e] at h0; cases h0
  have ec : P.cellsOf el = i.size := by simp [Program.cellsOf, hi]
  obtain ⟨out, h3, h4⟩ := fillQ_sound (pl := fun k => some (k * i.size, i.size)) (fun k off u hp => by cases hp; rw [ec]) h
  refine ⟨_, _, ?_, h4⟩
  have hs : (sizeOf el).run P w = .ok i.size w := by simp [sizeOf, run_typeInfo hi]
  have hr := reps_eq m z.cells
  unfold Instr.buildSlice
  simp only [Sem.run_bind, run_underlying hu, Result.andThen_ok, hs]
  rw [if_neg (by omega)]
  by_cases hm : m = 0
  · subst hm
    have hzz : reps 0 z.cells.toList = [] := by unfold reps; split <;> rfl
    rw [hzz] at h3
    simp only [Nat.zero_mul, if_true, Sem.run_pure, Sem.run_bind, Result.andThen_ok]
    have : ∀ f : Nat → Value, Array.map f (Array.range 0) = ⟨[]⟩ := fun f => by apply Array.ext'; simp
    simp only [this, h3]
    rfl
  · have hne : ¬ m * i.size = 0 := fun h => by rcases Nat.mul_eq_zero.1 h with h | h; exact hm h; exact e0 h
    rw [if_neg hne]
    simp only [Sem.run_bind, run_zero hi hz, Result.andThen_ok, Sem.run_pure]
    rw [← e1, hr]
    rw [← e1] at h3
    simp only [h3]
    rfl

theorem mkSW_sound {t : TypeId} {l c : Value} {K : Value → World → Prop} (h : mkSW P t l c w K) : ∃ v w', (Instr.makeSlice t l c).run P w = .ok v w' ∧ K v w' := by
  unfold mkSW at h
  split at h
  case h_2 => exact h.elim
  rename_i el hu
  split at h
  case h_2 => exact h.elim
  rename_i i l c hi
  split at h
  case h_2 => exact h.elim
  rename_i z hz
  cases h0 : Nat.beq i.size 0 with
  | true => rw [h0] at h; exact h.elim
  | false =>
  rw [h0] at h
  simp only [cond_false] at h
  cases h1 : Nat.beq z.cells.size i.size with
  | false => rw [h1] at h; exact h.elim
  | true =>
  rw [h1] at h
  simp only [cond_true] at h
  obtain ⟨g1, g2, g3, g4, hk⟩ := h
  refine ⟨_, _, ?_, hk⟩
  have e1 := Nat.eq_of_beq_eq_true h1
  have e0 : i.size ≠ 0 := fun e => by rw [e] at h0; cases h0
  have wl : IntKind.i64.wrap l = l := by unfold IntKind.wrap IntKind.bits IntKind.signed; simp only [Bool.true_and, decide_eq_true_eq]; split <;> omega
  have wc : IntKind.i64.wrap c = c := by unfold IntKind.wrap IntKind.bits IntKind.signed; simp only [Bool.true_and, decide_eq_true_eq]; split <;> omega
  have hs : (sizeOf el).run P w = .ok i.size w := by simp [sizeOf, run_typeInfo hi]
  have hr := reps_eq c.toNat z.cells
  have hb : (i.bytes : Int) * c ≤ 140737488355328 := by rw [Int.mul_comm]; exact g3
  have hnl : ¬ ((decide (c < 0) || decide ((i.bytes : Int) * c > 2 ^ 48)) || decide (l < 0) || decide (l > c)) = true := by
    simp only [Bool.or_eq_true, decide_eq_true_eq]
    omega
  have hroom : (askRoom (c.toNat * i.bytes)).run P w = .ok () w := by
    unfold askRoom
    split <;> simp [mark, Sem.run]
  unfold Instr.makeSlice
  simp only [Sem.run_bind, run_underlying hu, Result.andThen_ok, asInt, asIntOf, Sem.run_pure, run_typeInfo hi, wl, wc]
  rw [if_neg hnl]
  simp only [Sem.run_bind, hroom, Result.andThen_ok, hs]
  by_cases hc : c.toNat * i.size = 0
  · have hc0 : c.toNat = 0 := by rcases Nat.mul_eq_zero.1 hc with h | h; exact h; exact absurd h e0
    have hzz : reps c.toNat z.cells.toList = [] := by rw [hc0]; unfold reps; split <;> rfl
    simp only [hc, if_true, Sem.run_pure, Sem.run_bind, Result.andThen_ok]
    have : ∀ f : Nat → Value, Array.map f (Array.range 0) = ⟨[]⟩ := fun f => by apply Array.ext'; simp
    rw [this, hzz]
    rfl
  · rw [if_neg hc]
    simp only [Sem.run_bind, run_zero hi hz, Result.andThen_ok, Sem.run_pure]
    rw [← e1, hr]
    rfl
end
end Go.V

/- The soundness of any operation; regions in the order of the text. -/
namespace Go.V

section
variable {P : Program} {n : Nat} {ds : List Deferred} {e : Env} {a : Act} {o : Oper} {w : World} {Q : Exit → Act → World → Prop} {next : Act → World → Prop}

theorem muW_sound {t : TypeId} {m k x : Value} {K : World → Prop} (h : muW P t m k x w K) : ∃ w', (Instr.mapUpdate t m k x).run P w = .ok () w' ∧ K w' := by
  unfold muW at h
  split at h
  case h_2 => exact h.elim
  rename_i kt et p kk key hu
  obtain ⟨r, rfl, h⟩ := NM_elim h
  split at h
  case h_2 => exact h.elim
  rename_i k0 hk
  cases hb : (kk == k0) with
  | false => rw [hb] at h; exact h.elim
  | true =>
  rw [hb] at h
  simp only [cond_true] at h
  have e1 : kk = k0 := by simpa using hb
  subst e1
  obtain ⟨es, clock, hw, hf, hk'⟩ := h
  refine ⟨_, ?_, hk'⟩
  have hck : (Instr.checkKey false 10000 kt (.int kk key)).run P w = .ok () w := by
    have : ∀ d, (Instr.checkKey false (d + 1) kt (.int kk key)).run P w = .ok () w := fun d => by
      simp only [Instr.checkKey, Sem.run_bind, run_underlying hk, Result.andThen_ok, Sem.run_pure]
    exact this 9999
  have hfk : (Instr.findKey kt (.int kk key) es.toList).run P w = .ok none w := by
    unfold Instr.findKey
    simp only [Sem.run_bind, run_underlying hk, Result.andThen_ok, hf, Sem.run_pure]
  have hgo : (getObj r).run P w = .ok (.map es clock) w := by simp [getObj, Sem.run, hw]
  unfold Instr.mapUpdate
  simp only [Sem.run_bind, run_underlying hu, Result.andThen_ok, hgo, hck, hfk]
  simp [setObj, Sem.run, hw, World.setObj]

/-- A yield is called. -/
def Ylds (P : Program) (o : Oper) (a : Act) (w : World) (next : Act → World → Prop) : Prop :=
  ∃ l args, (execOp a.eval o).run P w = (Instr.yield l ⟨args⟩).run P w ∧ YieldW P l args w fun v w' => next (a.put o.dst v) w'

theorem callW_sound {y : Bool} (ha : Agrees n ds e a) {c : Call} (he : o.op = .call c) {K : Value → World → Prop} {p : Prop} (hp : callW P y e c o.type w K = some p) (h : p) (hK : ∀ v w', K v w' → next (a.put o.dst v) w') : o.wp P a w next Q ∨ (y = true ∧ Ylds P o a w next) := by
  unfold callW at hp
  split at hp
  · rename_i f args ts
    cases hp
    cases hb : hasBody P f with
    | false =>
      rw [hb] at h
      obtain ⟨v, h1, h2⟩ := wl_agrees ha h
      have hm : (⟨args.toList.map a.eval⟩ : Array Value) = args.map a.eval := by apply Array.ext'; simp
      refine .inl (wp_of_value (K := K) (v := v) (w' := w) ?_ h2.elim hK)
      rw [hm] at h1
      simp [execOp, he, resolve, Deferred.ofValue, Act.eval, invoke, h1]
    | true =>
      rw [hb] at h
      have h' := wl_agrees ha h
      refine .inl (wp_of_ret (f := f) (args := args.toList.map a.eval) ?_ h' fun v w' hr => hK v w' hr.elim)
      have hm : (⟨args.toList.map a.eval⟩ : Array Value) = args.map a.eval := by apply Array.ext'; simp
      simp [execOp, he, resolve, Deferred.ofValue, Act.eval, invoke, callFunc_run hb, hm]
  · rename_i x args ts hx
    cases hp
    obtain ⟨fv, hfv, h⟩ := wi_elim h
    have e1 := ha.ev hfv
    have h' := wl_agrees ha h
    unfold CvW at h'
    split at h'
    case h_3 => exact h'.elim
    case h_2 =>
      rename_i l first cap
      cases y with
      | false => exact h'.elim
      | true =>
        refine .inr ⟨rfl, l, first.toList ++ args.toList.map a.eval, ?_, ?_⟩
        · have hm : first ++ args.map a.eval = ⟨first.toList ++ args.toList.map a.eval⟩ := by apply Array.ext'; simp
          simp only [execOp, he, resolve, e1, Deferred.ofValue, Sem.run_bind, Sem.run_pure, Result.andThen_ok, invoke, hm]
        · obtain ⟨f, tmps, asg, body, h1, h2⟩ := h'
          exact ⟨f, tmps, asg, body, h1, h2.mono fun e' w' ⟨v, hv, hk⟩ => ⟨v, hv, hK v w' hk.elim⟩⟩
    rename_i f first cap
    cases hb : hasBody P f with
    | false => rw [hb] at h'; exact h'.elim
    | true =>
      rw [hb] at h'
      refine .inl (wp_of_ret (f := f) (args := first.toList ++ args.toList.map a.eval ++ cap.toList) ?_ h' fun v w' hr => hK v w' hr.elim)
      have hm : first ++ args.map a.eval ++ cap = ⟨first.toList ++ args.toList.map a.eval ++ cap.toList⟩ := by apply Array.ext'; simp
      simp only [execOp, he, resolve, e1, Deferred.ofValue, Sem.run_bind, Sem.run_pure, Result.andThen_ok, invoke, callFunc_run hb, hm]
  · rename_i r name args ts
    cases hp
    obtain ⟨fv, hfv, h⟩ := wi_elim h
    have e1 := ha.ev hfv
    have h' := wl_agrees ha h
    unfold InvW at h'
    split at h'
    case h_2 => exact h'.elim
    rename_i t v
    obtain ⟨f, u, hmt, hb, h'⟩ := h'
    refine .inl (wp_of_ret (f := f) (args := u :: args.toList.map a.eval) ?_ h' fun v w' hr => hK v w' hr.elim)
    have hm : #[u] ++ args.map a.eval = ⟨u :: args.toList.map a.eval⟩ := by apply Array.ext'; simp
    have hx : (#[Value.iface t v] ++ args.map a.eval).extract 1 (#[Value.iface t v] ++ args.map a.eval).size = args.map a.eval := by
      apply Array.ext'
      simp only [Array.toList_extract, List.extract, Array.toList_append, Array.size_append, Array.toList_map, List.size_toArray, List.length_singleton, Array.size_map, List.cons_append, List.nil_append, List.drop_succ_cons, List.drop_zero]
      exact List.take_of_length_le (by simp)
    have hg : (#[Value.iface t v] ++ args.map a.eval)[0]? = some (Value.iface t v) := by rw [Array.getElem?_append_left (by simp)]; rfl
    simp only [execOp, he, resolve, e1, Sem.run_bind, Sem.run_pure, Result.andThen_ok, invoke, hg, hx, callMethod, program, Sem.run, hmt, callFunc_run hb, hm]
  · rename_i s x t1 t2
    cases hp
    have h' := wi_agrees ha (wi_agrees ha h)
    obtain ⟨p, l, c, w', hr, hk⟩ := h'
    exact .inl (wp_of_value (K := K) (by simp [execOp, he, resolve, invoke, builtin, hr]) hk hK)
  · rename_i s x t1 t2
    cases hp
    have h' := wi_agrees ha (wi_agrees ha h)
    obtain ⟨p, w', hr, hk⟩ := h'
    exact .inl (wp_of_value (K := K) (by simp [execOp, he, resolve, invoke, builtin, hr]) hk hK)
  · rename_i s t1
    cases hp
    have h' := wi_agrees ha h
    obtain ⟨w', hr, hk⟩ := h'
    exact .inl (wp_of_value (K := K) (by simp [execOp, he, resolve, invoke, builtin, hr]) hk hK)
  · cases hp

/-- No slice expression with a greatest and no upper bound. -/
def okOp : Op → Bool
  | .slice _ _ _ none (some _) => false
  | .select _ _ => false
  | .defer _ => false
  | _ => true

theorem opW_sound {y : Bool} (ha : Agrees n ds e a) (hok : okOp o.op = true) {K : Value → World → Prop} (h : opW P y e o.op o.type w K) (hK : ∀ v w', K v w' → next (a.put o.dst v) w') : o.wp P a w next Q ∨ (y = true ∧ Ylds P o a w next) := by
  have hm : ∀ t x lo mx, o.op = .slice t x lo none (some mx) → False := fun t x lo mx he => by rw [he] at hok; cases hok
  have hq : ∀ {op : Op}, o.op = op → (opR P e op w fun v => K v w) → o.wp P a w next Q ∨ (y = true ∧ Ylds P o a w next) := fun he h => by subst he; exact .inl (wp_of_yld (opR_sound ha hm h) hK)
  unfold opW at h
  split at h
  · rename_i t x y he
    split at h
    case h_2 => exact h.elim
    rename_i p hp
    obtain ⟨ad, rfl, h⟩ := NN_elim h
    have e1 := ha.ev hp
    have h' := wi_agrees ha h
    obtain ⟨w', h1, h2⟩ := StW_sound (P := P) h'
    exact .inl (wp_of_skip (K := K) (by simp [execOp, he, e1, Instr.storeAt, Instr.sureAddr, h1]) h2 hK)
  · rename_i t x he
    have h' := wi_agrees ha h
    exact .inl (wp_of_value (K := K) (by simp [execOp, he, Instr.box, newVar, newRow, newObj, Sem.run]) h' hK)
  · rename_i t he
    unfold allocW at h
    split at h
    case h_2 => exact h.elim
    rename_i i hi
    split at h
    case h_2 => exact h.elim
    rename_i z hz
    exact .inl (wp_of_value (K := K) (by simp [execOp, he, Instr.alloc, run_zero hi hz, newVar, newRow, newObj, Sem.run]) h hK)
  · rename_i t m parts he
    have h' := wl_agrees ha h
    obtain ⟨v, w', h1, h2⟩ := bsW_sound h'
    exact .inl (wp_of_value (K := K) (by simp only [execOp, he, pairs_eval, Sem.run_bind, h1, Result.andThen_ok, Sem.run_pure]) h2 hK)
  · rename_i t l c he
    have h' := wi_agrees ha (wi_agrees ha h)
    obtain ⟨v, w', h1, h2⟩ := mkSW_sound h'
    exact .inl (wp_of_value (K := K) (by simp [execOp, he, h1]) h2 hK)
  · rename_i t he
    exact .inl (wp_of_value (K := K) (by simp [execOp, he, Instr.makeMap, newObj, Sem.run]) h hK)
  · rename_i t m k x he
    have h' := wi_agrees ha (wi_agrees ha (wi_agrees ha h))
    obtain ⟨w', h1, h2⟩ := muW_sound h'
    exact .inl (wp_of_skip (K := K) (by simp [execOp, he, h1]) h2 hK)
  · rename_i c he
    split at h
    · rename_i p hp
      exact callW_sound ha he hp h hK
    · exact hq he h
  · rename_i t1 t2 x he
    split at h
    · rename_i p l c hx
      obtain ⟨s, h1, h2⟩ := h
      exact .inl (wp_of_value (K := K) (by simp [execOp, he, ha.ev hx, h1]) h2 hK)
    · exact hq he h
  · rename_i t x y yt he
    split at h
    · rename_i k p k' q h1 h2
      cases hb : (k == k') with
      | false => rw [hb] at h; exact h.elim
      | true =>
        rw [hb] at h
        have hk : k = k' := by simpa using hb
        subst hk
        obtain ⟨r, w', h3, h4⟩ := h
        exact .inl (wp_of_value (K := K) (by simp [execOp, he, ha.ev h1, ha.ev h2, eqGuard, binOp, h3]) h4 hK)
    · exact hq he h
  · exact hq rfl h
theorem opW_plain (ha : Agrees n ds e a) (hok : okOp o.op = true) {K : Value → World → Prop} (h : opW P false e o.op o.type w K) (hK : ∀ v w', K v w' → next (a.put o.dst v) w') : o.wp P a w next Q := by
  rcases opW_sound (Q := Q) ha hok h hK with h | ⟨h, _⟩
  · exact h
  · cases h

/-! ### in an activation of a function, or in a round of a range over a function -/
def FR (r : Option Nat) : Fence := { Fence.wide with round := r }

theorem callsIn_FR {r : Option Nat} {m : Nat} {f : FuncId} {args : Array Value} {R : Ending → World → Prop} (h : Calls P f args w R) : CallsIn (FR r) m P f args w R :=
  ⟨trivial, fun cs _ => let ⟨e, w', fr, hr, s, x⟩ := h cs; ⟨e, w', fr, hr, comesIn_wide.2 s, x⟩⟩

theorem semAt_FR {r : Option Nat} (hok : okOp o.op = true) : o.semAt (FR r).round a.eval = execOp a.eval o := by
  cases r with
  | none => rfl
  | some l => exact Oper.semAt_some l _ _ fun c hc => by rw [hc] at hok; cases hok

theorem wpIn_of_wp {r : Option Nat} {m : Nat} (hok : okOp o.op = true) (h : o.wp P a w next Q) : o.wpIn (FR r) m P a w next Q := by
  refine ⟨fun _ _ => trivial, ?_⟩
  rw [semAt_FR hok]
  unfold Oper.wp at h
  generalize (execOp a.eval o).run P w = x at *
  cases x with
  | ok x w' =>
    cases x <;> simp only [Oper.upon] at h <;> simp only [Oper.uponIn]
    case value => exact h
    case skip => exact h
    case defer => exact h
    case enter => exact ⟨fun hd => (by cases hd), callsIn_FR h⟩
    case row => exact ⟨fun hd => (by cases hd), fun c cs _ => let ⟨v, w'', hr, s⟩ := h c cs; ⟨v, w'', hr, stepsIn_wide.2 s⟩⟩
  | halt x w' => cases x <;> simp only [Oper.upon] at h <;> simp only [Oper.uponIn] <;> exact h

theorem wpIn_of_ylds {r : Option Nat} {m : Nat} (hok : okOp o.op = true) (h : Ylds P o a w next) : o.wpIn (FR r) m P a w next Q := by
  obtain ⟨l, args, h1, f, tmps, asg, body, h2, h3⟩ := h
  refine ⟨fun _ _ => trivial, ?_⟩
  rw [semAt_FR hok, h1, h2]
  refine ⟨fun hd => (by cases hd), trivial, fun c cs hr => ?_⟩
  obtain ⟨e', w', ⟨v, hv, hk⟩, hs⟩ := h3.2 c cs (fun d hd => by cases hd)
  subst hv
  exact ⟨.returned v, w', hk, hs⟩

theorem opW_soundIn {r : Option Nat} {m : Nat} (ha : Agrees n ds e a) (hok : okOp o.op = true) {K : Value → World → Prop} (h : opW P true e o.op o.type w K) (hK : ∀ v w', K v w' → next (a.put o.dst v) w') : o.wpIn (FR r) m P a w next Q := by
  rcases opW_sound (Q := Q) ha hok h hK with h | ⟨_, h⟩
  · exact wpIn_of_wp hok h
  · exact wpIn_of_ylds hok h
end
end Go.V

/- Regions: in the order of the text, and in whatever order. -/
namespace Go.V

def okD (n : Nat) : Option Tmp → Bool
  | some d => Nat.blt d n
  | none => true
def putE (d : Option Tmp) (v : Value) (e : Env) : Env := match d with
  | some d => (d, v) :: e
  | none => e

theorem Agrees.putE {n : Nat} {ds : List Deferred} {e : Env} {a : Act} (h : Agrees n ds e a) {d : Option Tmp} (hd : okD n d = true) (v : Value) : Agrees n ds (putE d v e) (a.put d v) := by
  cases d with
  | none => exact h
  | some d => exact h.put (Nat.le_of_ble_eq_true hd) v

def gdst (ops : List Oper) (j : Nat) : Option Tmp := match ops[j]? with
  | some o => o.dst
  | none => none

/-- Is an operation wanted? -/
def guardW (ops : List Oper) (g : Option (Nat × Bool)) (e : Env) (run skip : Env → Prop) : Prop := match g with
  | none => run e
  | some (j, want) => match gdst ops j with
    | some d => match look e d with
      | some (.bool b) => cond b (cond want (run ((d, .bool true) :: e)) (skip ((d, .bool true) :: e))) (cond want (skip ((d, .bool false) :: e)) (run ((d, .bool false) :: e)))
      | some (.tuple _) => skip e
      | _ => False
    | none => False

theorem Agrees.same {n : Nat} {ds : List Deferred} {e : Env} {a : Act} (h : Agrees n ds e a) {d : Nat} {v : Value} (hl : V.look e d = some v) : Agrees n ds ((d, v) :: e) a := by
  refine ⟨h.1, h.2.1, fun t u ht => ?_⟩
  simp only [V.look] at ht
  cases hb : Nat.beq d t with
  | true =>
    have hdt : d = t := Nat.eq_of_beq_eq_true hb
    subst hdt
    simp only [hb, cond_true, Option.some.injEq] at ht
    subst ht
    exact h.2.2 _ _ hl
  | false => simp only [hb, cond_false] at ht; exact h.2.2 _ _ ht

theorem guardW_sound {n : Nat} {ds : List Deferred} {ops : List Oper} {o : Oper} {e : Env} {a : Act} {run skip : Env → Prop} (ha : Agrees n ds e a) (h : guardW ops o.guard e run skip) :
    (Region.wanted o (yielded ops.toArray a.tmps) = true ∧ ∃ e', Agrees n ds e' a ∧ run e') ∨ (Region.wanted o (yielded ops.toArray a.tmps) = false ∧ ∃ e', Agrees n ds e' a ∧ skip e') := by
  unfold guardW at h
  unfold Region.wanted
  split at h
  · rename_i hg; exact .inl ⟨by simp [hg], e, ha, h⟩
  · rename_i j want hg
    simp only [hg]
    split at h
    case h_2 => exact h.elim
    rename_i d hd
    have hy : ∀ v, V.look e d = some v → yielded ops.toArray a.tmps j = (match v with | .bool b => some b | _ => none) := fun v hv => by
      unfold gdst at hd
      split at hd
      · rename_i oj hoj
        have := ha.2.2 d v hv
        unfold yielded
        simp [hoj, hd, this]
        cases v <;> rfl
      · cases hd
    split at h
    · rename_i b hb
      have hy' := hy _ hb
      simp only at hy'
      cases b <;> cases want <;> simp only [cond_true, cond_false] at h <;> rw [hy'] <;> first
        | exact .inl ⟨rfl, _, ha.same hb, h⟩
        | exact .inr ⟨rfl, _, ha.same hb, h⟩
    · rename_i vs hb
      have hy' := hy _ hb
      simp only at hy'
      rw [hy']
      exact .inr ⟨rfl, e, ha, h⟩
    · exact h.elim

def okO (n : Nat) (o : Oper) : Bool := okD n o.dst && okOp o.op

def opsW (P : Program) (n : Nat) (ops : List Oper) : List Oper → Env → World → (Env → World → Prop) → Prop
  | [], e, w, K => K e w
  | o :: r, e, w, K => cond (okO n o) (guardW ops o.guard e (fun e => opW P true e o.op o.type w fun v w' => opsW P n ops r (putE o.dst v e) w' K) (fun e => opsW P n ops r (putE o.dst undef e) w K)) False

section
variable {P : Program} {n : Nat} {ds : List Deferred} {Q : Exit → Act → World → Prop}

theorem opsW_sound {r : Option Nat} {m : Nat} {ops : List Oper} {K : Env → World → Prop} (hK : ∀ e a w, Agrees n ds e a → K e w → Q .normal a w) : ∀ {l : List Oper} {e : Env} {a : Act} {w : World},
    Agrees n ds e a → opsW P n ops l e w K → wpListIn (FR r) m P ops.toArray Q l a w
  | [], e, a, w, ha, h => hK e a w ha h
  | o :: l, e, a, w, ha, h => by
    unfold opsW at h
    cases hb : okO n o with
    | false => rw [hb] at h; exact h.elim
    | true =>
    rw [hb] at h
    simp only [cond_true] at h
    simp only [okO, Bool.and_eq_true] at hb
    unfold wpListIn
    rcases guardW_sound ha h with ⟨hw, e', ha', h'⟩ | ⟨hw, e', ha', h'⟩
    · rw [if_pos hw]
      exact opW_soundIn ha' hb.2 h' fun v w' hr => opsW_sound hK (ha'.putE hb.1 v) hr
    · rw [if_neg (by simp [hw])]
      exact ⟨fun _ _ => trivial, opsW_sound hK (ha'.putE hb.1 undef) h'⟩

/-! ### whatever order -/
/-- Whatever order is picked from here on; D is asked of each operation that is carried out. -/
def wpAnyN (P : Program) (ops : Array Oper) (Q : Exit → Act → World → Prop) (D : Nat → World → World → Prop) : Nat → Array Bool → Act → World → Prop
  | 0, listed, a, w => Region.ready .any ops listed = [] ∧ Q .normal a w
  | fuel + 1, listed, a, w =>
    (Region.ready .any ops listed = [] → Q .normal a w) ∧
    ∀ i ∈ Region.ready .any ops listed, wpOp P ops Q i (fun a' w' => D i w w' ∧ wpAnyN P ops Q D fuel (listed.setIfInBounds i true) a' w') a w

theorem wpAny_of_N {ops : Array Oper} {D : Nat → World → World → Prop} : ∀ (fuel : Nat) (listed : Array Bool) (a : Act) (w : World), wpAnyN P ops Q D fuel listed a w → wpAny P .any ops Q fuel listed a w
  | 0, _, _, _, h => h
  | fuel + 1, _, _, _, h => ⟨h.1, fun i hi => wpOp_mono (fun a' w' h' => wpAny_of_N fuel _ a' w' h'.2) (h.2 i hi)⟩

/-- What is listed is listed behind what it waits for. -/
def Closed (ops : Array Oper) (listed : Array Bool) : Prop := ∀ k o, ops[k]? = some o → listed.getD k false = true → ∀ e ∈ o.after, Region.binds .any e = true → listed.getD e.on false = true

theorem Closed.set {ops : Array Oper} {listed : Array Bool} (h : Closed ops listed) {i : Nat} (hi : i ∈ Region.ready .any ops listed) : Closed ops (listed.setIfInBounds i true) := by
  intro k o hk hl e he hb
  by_cases hki : i = k
  · subst hki
    obtain ⟨_, o', ho', hall⟩ := mem_ready.1 hi
    rw [hk] at ho'
    cases ho'
    exact getD_set_true (hall e he hb)
  · rw [getD_set_ne false hki] at hl
    exact getD_set_true (h k o hk hl e he hb)

theorem closed_start (ops : Array Oper) (m : Nat) : Closed ops (Array.replicate m false) := by
  intro k o _ hl
  simp [Array.getD] at hl

theorem wpAnyN_first {ops : Array Oper} {D : Nat → World → World → Prop} {S : World → Prop} {i : Nat} {oi : Oper} {v : Value} (hi : ops[i]? = some oi) (hsel : ∀ (j : Nat) (o : Oper) cs b, ops[j]? = some o → o.op ≠ .select cs b)
    (hQ : ∀ c a w, Q (.panic c) (a.put oi.dst v) w → Q (.panic c) a w) (hDi : ∀ w, D i w w)
    (hD : ∀ listed, Closed ops listed → listed.getD i true = false → ∀ j ∈ Region.ready .any ops listed, j ≠ i → ∀ w w', D j w w' → S w → S w') :
    ∀ (fuel : Nat) (listed : Array Bool) (a : Act) (w : World), Closed ops listed →
      (∀ j oj, ops[j]? = some oj → j ≠ i → listed.getD j true = false → (∀ e ∈ oj.after, Region.binds .any e = true → e.on ≠ i) → oi.apart ops oj = true) →
      i ∈ Region.ready .any ops listed → YieldsIf P ops S oi v a → S w →
      wpAnyN P ops Q D fuel (listed.setIfInBounds i true) (a.put oi.dst v) w → wpAnyN P ops Q D (fuel + 1) listed a w := by
  intro fuel
  induction fuel with
  | zero =>
    intro listed a w hcl _ hr hy hS H
    refine ⟨fun h => (by rw [h] at hr; cases hr), fun j hj => ?_⟩
    by_cases hji : j = i
    · subst hji; exact hy.wpOp hi hS ⟨hDi w, H⟩
    · have := ready_mono hj hji
      rw [H.1] at this
      cases this
  | succ fuel ih =>
    intro listed a w hcl hfree hr hy hS H
    refine ⟨fun h => (by rw [h] at hr; cases hr), fun j hj => ?_⟩
    by_cases hji : j = i
    · subst hji; exact hy.wpOp hi hS ⟨hDi w, H⟩
    · have h1 := H.2 j (ready_mono hj hji)
      obtain ⟨hjun, oj, hoj, hall⟩ := mem_ready.1 hj
      have hnot : ∀ e ∈ oj.after, Region.binds .any e = true → e.on ≠ i := fun e he hb heq => by
        have h1 := hall e he hb
        have h0 := (mem_ready.1 hr).1
        rw [heq] at h1
        rcases Nat.lt_or_ge i listed.size with h' | h'
        · simp [h'] at h0 h1; rw [h0] at h1; cases h1
        · simp [Array.getElem?_eq_none h'] at h1
      have h2 := wpOp_putIf hoj (hfree j oj hoj hji hjun hnot) (fun cs b => hsel i oi cs b hi) (fun cs b => hsel j oj cs b hoj) hQ hy h1
      have hfree' : ∀ k ok, ops[k]? = some ok → k ≠ i → (listed.setIfInBounds j true).getD k true = false →
          (∀ e ∈ ok.after, Region.binds .any e = true → e.on ≠ i) → oi.apart ops ok = true := fun k ok hk hki hun hno => by
        refine hfree k ok hk hki ?_ hno
        by_cases hjk : j = k
        · subst hjk; exact hjun
        · rw [getD_set_ne true hjk] at hun; exact hun
      refine wpOp_mono (fun a' w' h3 => ⟨h3.2.1, ih (listed.setIfInBounds j true) a' w' (hcl.set hj) hfree' (ready_mono hr (Ne.symm hji)) h3.1 (hD listed hcl (mem_ready.1 hr).1 j hj hji w w' h3.2.1 hS) ?_⟩) h2
      rw [Array.setIfInBounds_comm _ _ hji]
      exact h3.2.2
end
end Go.V

/- Regions that draw their order. -/
namespace Go.V

/-- It yields a value and does nothing else, whatever lies in memory. -/
def pureOp : Op → Bool
  | .store .. | .box .. | .alloc .. | .buildSlice .. | .makeSlice .. | .makeMap .. | .mapUpdate .. | .load .. | .lookup .. => false
  | .call ⟨.builtin .len, _, _⟩ | .call ⟨.builtin .min, _, _⟩ | .call ⟨.builtin .max, _, _⟩ => true
  | .call _ => false
  | .select .. => false
  | _ => true
def preds (ops : List Oper) (j : Nat) : List Nat := match ops[j]? with
  | some o => o.after.toList.filterMap fun e => cond (Region.binds .any e) (some e.on) none
  | none => []

/-- All that comes ahead of some, as a number's bits. -/
def ahead (ops : List Oper) : Nat → List Nat → Nat → Nat
  | 0, _, vis => vis
  | _ + 1, [], vis => vis
  | f + 1, k :: todo, vis => cond (vis.testBit k) (ahead ops f todo vis) (ahead ops f (preds ops k ++ todo) (vis ||| 2 ^ k))

/-- Each operation that only reads comes ahead of this one. -/
def late (ops : List Oper) (mems : List Nat) (j : Nat) : Bool := mems.all fun i => (ahead ops 4000 (preds ops j) 0).testBit i

theorem ahead_listed {ops : List Oper} {listed : Array Bool} (hc : Closed ops.toArray listed) : ∀ (f : Nat) (todo : List Nat) (vis : Nat), (∀ k ∈ todo, listed.getD k false = true) →
    (∀ i, vis.testBit i = true → listed.getD i false = true) → ∀ i, (ahead ops f todo vis).testBit i = true → listed.getD i false = true
  | 0, _, _, _, hv => hv
  | _ + 1, [], _, _, hv => hv
  | f + 1, k :: todo, vis, ht, hv => by
    unfold ahead
    cases hb : vis.testBit k with
    | true => exact ahead_listed hc f todo vis (fun x hx => ht x (by simp [hx])) hv
    | false =>
      refine ahead_listed hc f (preds ops k ++ todo) (vis ||| 2 ^ k) (fun x hx => ?_) (fun i hi => ?_)
      · rcases List.mem_append.1 hx with hx | hx
        · unfold preds at hx
          split at hx
          · rename_i o ho
            obtain ⟨e, he, hb⟩ := List.mem_filterMap.1 hx
            cases hbb : Region.binds .any e with
            | false => simp [hbb] at hb
            | true =>
              simp only [hbb, cond_true, Option.some.injEq] at hb
              rw [← hb]
              exact hc k o (by simpa using ho) (ht k (by simp)) e (by simpa using he) hbb
          · cases hx
        · exact ht x (by simp [hx])
      · rw [Nat.testBit_or, Bool.or_eq_true] at hi
        rcases hi with hi | hi
        · exact hv i hi
        · rw [Nat.testBit_two_pow] at hi
          have : k = i := by simpa using hi
          rw [← this]; exact ht k (by simp)

theorem late_spec {ops : List Oper} {mems : List Nat} {listed : Array Bool} (hc : Closed ops.toArray listed) {j : Nat} (hj : j ∈ Region.ready .any ops.toArray listed) (hl : late ops mems j = true) {i : Nat} (hi : i ∈ mems) : listed.getD i false = true := by
  have h1 := List.all_eq_true.1 hl i hi
  refine ahead_listed hc 4000 (preds ops j) 0 (fun k hk => ?_) (fun i hi => by simp at hi) i h1
  obtain ⟨_, o, ho, hall⟩ := mem_ready.1 hj
  unfold preds at hk
  split at hk
  · rename_i o' ho'
    have : o = o' := by simpa [ho'] using ho.symm
    subst this
    obtain ⟨e, he, hb⟩ := List.mem_filterMap.1 hk
    cases hbb : Region.binds .any e with
    | false => simp [hbb] at hb
    | true =>
      simp only [hbb, cond_true, Option.some.injEq] at hb
      rw [← hb]
      exact hall e (by simpa using he) hbb
  · cases hk

/-- What is asked of an operation that has been carried out. -/
def Dem (ops : List Oper) (mems : List Nat) (j : Nat) (w w' : World) : Prop := match ops[j]? with
  | some o => (pureOp o.op || memOp o.op) = true ∧ w' = w ∨ (pureOp o.op || memOp o.op) = false ∧ (late ops mems j = false → Old w w')
  | none => True

def memsOf (ops : List Oper) : List Nat := (List.range ops.length).filter fun i => match ops[i]? with
  | some o => memOp o.op
  | none => false

/-- The first of some that may be taken ahead of all others. -/
def pickQ (ops : List Oper) (listed : Array Bool) : List Nat → Option (Nat × Oper)
  | [] => none
  | i :: r => match ops[i]? with
    | some o => cond ((pureOp o.op || memOp o.op) && Region.free .any ops.toArray listed i) (some (i, o)) (pickQ ops listed r)
    | none => pickQ ops listed r

def allW (p : Nat → Prop) : List Nat → Prop
  | [] => True
  | [i] => p i
  | i :: r => p i ∧ allW p r

theorem allW_elim {p : Nat → Prop} : ∀ {l : List Nat}, allW p l → ∀ i ∈ l, p i
  | [], _, i, hi => by cases hi
  | [x], h, i, hi => by
    have : i = x := by simpa using hi
    rw [this]; exact h
  | x :: y :: r, h, i, hi => by
    rcases List.mem_cons.1 hi with rfl | hi
    · exact h.1
    · exact allW_elim h.2 i hi

def anyW (P : Program) (n : Nat) (ops : List Oper) (mems : List Nat) (w0 : World) : Nat → Array Bool → Env → World → (Env → World → Prop) → Prop
  | 0, listed, e, w, K => match Region.ready .any ops.toArray listed with
    | [] => K e w
    | _ :: _ => False
  | f + 1, listed, e, w, K => match Region.ready .any ops.toArray listed with
    | [] => K e w
    | r :: rs => match pickQ ops listed (r :: rs) with
      | some (i, o) => cond (okO n o) (guardW ops o.guard e
          (fun e => opR P e o.op w0 fun v => anyW P n ops mems w0 f (listed.setIfInBounds i true) (putE o.dst v e) w K)
          (fun e => anyW P n ops mems w0 f (listed.setIfInBounds i true) (putE o.dst undef e) w K)) False
      | none => allW (fun i => match ops[i]? with
        | some o => cond (okO n o && !(pureOp o.op || memOp o.op)) (cond (late ops mems i)
            (guardW ops o.guard e
              (fun e => opW P false e o.op o.type w fun v w' => anyW P n ops mems w0 f (listed.setIfInBounds i true) (putE o.dst v e) w' K)
              (fun e => anyW P n ops mems w0 f (listed.setIfInBounds i true) (putE o.dst undef e) w K))
            (guardW ops o.guard e
              (fun e => opW P false e o.op o.type w fun v w' => Old w w' ∧ anyW P n ops mems w0 f (listed.setIfInBounds i true) (putE o.dst v e) w' K)
              (fun e => anyW P n ops mems w0 f (listed.setIfInBounds i true) (putE o.dst undef e) w K))) False
        | none => False) (r :: rs)
section
variable {P : Program} {n : Nat} {ds : List Deferred} {Q : Exit → Act → World → Prop}

theorem mem_memsOf {ops : List Oper} {i : Nat} {o : Oper} (ho : ops[i]? = some o) (hm : memOp o.op = true) : i ∈ memsOf ops := by
  unfold memsOf
  refine List.mem_filter.2 ⟨List.mem_range.2 ?_, by simp [ho, hm]⟩
  exact (List.getElem?_eq_some_iff.1 ho).1

theorem pickQ_spec {ops : List Oper} {listed : Array Bool} : ∀ {l : List Nat} {i : Nat} {o : Oper}, pickQ ops listed l = some (i, o) →
    i ∈ l ∧ ops[i]? = some o ∧ (pureOp o.op || memOp o.op) = true ∧ Region.free .any ops.toArray listed i = true
  | [], i, o, h => by cases h
  | x :: r, i, o, h => by
    unfold pickQ at h
    split at h
    · rename_i ox hox
      cases hb : ((pureOp ox.op || memOp ox.op) && Region.free .any ops.toArray listed x) with
      | true =>
        rw [hb] at h
        simp only [cond_true, Option.some.injEq, Prod.mk.injEq] at h
        obtain ⟨rfl, rfl⟩ := h
        rw [Bool.and_eq_true] at hb
        exact ⟨by simp, hox, hb.1, hb.2⟩
      | false =>
        rw [hb] at h
        obtain ⟨h1, h2⟩ := pickQ_spec h
        exact ⟨List.mem_cons_of_mem _ h1, h2⟩
    · obtain ⟨h1, h2⟩ := pickQ_spec h
      exact ⟨List.mem_cons_of_mem _ h1, h2⟩

theorem anyW_sound {ops : List Oper} {w0 : World} {K : Env → World → Prop} (hK : ∀ e a w, Agrees n ds e a → K e w → Q .normal a w) (hQ : ∀ c a w, ¬ Q (.panic c) a w)
    (hsel : ∀ (j : Nat) (o : Oper) cs b, ops.toArray[j]? = some o → o.op ≠ .select cs b) : ∀ {f : Nat} {listed : Array Bool} {e : Env} {a : Act} {w : World},
    Agrees n ds e a → Closed ops.toArray listed → ((∃ i ∈ memsOf ops, listed.getD i true = false) → Old w0 w) → anyW P n ops (memsOf ops) w0 f listed e w K → wpAnyN P ops.toArray Q (Dem ops (memsOf ops)) f listed a w := by
  intro f
  induction f with
  | zero =>
    intro listed e a w ha _ _ h
    unfold anyW at h
    split at h
    · rename_i hr; exact ⟨hr, hK e a w ha h⟩
    · exact h.elim
  | succ f ih =>
    intro listed e a w ha hcl hS h
    unfold anyW at h
    split at h
    · rename_i hr; exact ⟨fun _ => hK e a w ha h, by rw [hr]; intro i hi; cases hi⟩
    · rename_i r rs hr
      split at h
      · rename_i i o hp
        obtain ⟨hin, ho, hq, hfree⟩ := pickQ_spec hp
        have hin' : i ∈ Region.ready .any ops.toArray listed := by rw [hr]; exact hin
        have ho' : ops.toArray[i]? = some o := by simpa using ho
        have hun : listed.getD i true = false := (mem_ready.1 hin').1
        cases hb : okO n o with
        | false => rw [hb] at h; exact h.elim
        | true =>
        rw [hb] at h
        simp only [cond_true] at h
        simp only [okO, Bool.and_eq_true] at hb
        have hm : ∀ t x lo mx, o.op = .slice t x lo none (some mx) → False := fun t x lo mx he => by have := hb.2; rw [he] at this; cases this
        have hDi : ∀ w, Dem ops (memsOf ops) i w w := fun w => by unfold Dem; rw [ho]; exact .inl ⟨hq, rfl⟩
        have hS' : (∃ k ∈ memsOf ops, (listed.setIfInBounds i true).getD k true = false) → Old w0 w := fun ⟨k, hk, hl⟩ => by
          refine hS ⟨k, hk, ?_⟩
          by_cases hik : i = k
          · subst hik; exact hun
          · rw [getD_set_ne true hik] at hl; exact hl
        -- what it yields
        have key : ∃ v, ((memOp o.op = true → YieldsIf P ops.toArray (Old w0) o v a) ∧ (memOp o.op = false → YieldsIf P ops.toArray (fun _ => True) o v a)) ∧ wpAnyN P ops.toArray Q (Dem ops (memsOf ops)) f (listed.setIfInBounds i true) (a.put o.dst v) w := by
          rcases guardW_sound ha h with ⟨hw, e', ha', h'⟩ | ⟨hw, e', ha', h'⟩
          · obtain ⟨v, h1, h2⟩ := opR_sound ha' hm h'
            exact ⟨v, ⟨fun _ => .inl ⟨hw, fun w' ho => h1 w' fun _ => ho⟩, fun hf => .inl ⟨hw, fun w' _ => h1 w' fun ht => by rw [hf] at ht; cases ht⟩⟩, ih (ha'.putE hb.1 v) (hcl.set hin') hS' h2⟩
          · exact ⟨undef, ⟨fun _ => .inr ⟨hw, rfl⟩, fun _ => .inr ⟨hw, rfl⟩⟩, ih (ha'.putE hb.1 undef) (hcl.set hin') hS' h'⟩
        obtain ⟨v, ⟨hy1, hy2⟩, hnext⟩ := key
        cases hmo : memOp o.op with
        | true =>
          have hmem := mem_memsOf ho hmo
          refine wpAnyN_first (S := Old w0) ho' hsel (fun c a w h => (hQ c _ w h).elim) hDi ?_ f listed a w hcl (Region.free_spec ho' hfree) hin' (hy1 hmo) (hS ⟨i, hmem, hun⟩) hnext
          intro listed' hcl' hun' j hj hji w1 w2 hd hs
          unfold Dem at hd
          split at hd
          · rcases hd with ⟨_, rfl⟩ | ⟨_, hd⟩
            · exact hs
            · cases hl : late ops (memsOf ops) j with
              | false => exact hs.trans (hd hl)
              | true =>
                have := late_spec hcl' hj hl hmem
                rcases Nat.lt_or_ge i listed'.size with h' | h'
                · simp [h'] at hun' this; rw [hun'] at this; cases this
                · simp [Array.getElem?_eq_none h'] at this
          · rename_i hn
            have := (mem_ready.1 hj).2
            obtain ⟨o', ho2, _⟩ := this
            simp [hn] at ho2
        | false =>
          exact wpAnyN_first (S := fun _ => True) ho' hsel (fun c a w h => (hQ c _ w h).elim) hDi (fun _ _ _ _ _ _ _ _ _ _ => trivial) f listed a w hcl (Region.free_spec ho' hfree) hin' (hy2 hmo) trivial hnext
      · rename_i hp
        have hall := allW_elim h
        refine ⟨fun h0 => (by rw [h0] at hr; cases hr), fun i hi => ?_⟩
        have hi' : i ∈ r :: rs := by rw [← hr]; exact hi
        have h := hall i hi'
        split at h
        case h_2 => exact h.elim
        rename_i o ho
        have ho' : ops.toArray[i]? = some o := by simpa using ho
        have hun : listed.getD i true = false := (mem_ready.1 hi).1
        cases hb : (okO n o && !(pureOp o.op || memOp o.op)) with
        | false => rw [hb] at h; exact h.elim
        | true =>
        rw [hb] at h
        simp only [cond_true] at h
        rw [Bool.and_eq_true] at hb
        have hb1 := hb.1
        simp only [okO, Bool.and_eq_true] at hb1
        have hnq : (pureOp o.op || memOp o.op) = false := by simpa using hb.2
        unfold wpOp
        simp only [ho']
        cases hl : late ops (memsOf ops) i with
        | true =>
          rw [hl] at h
          simp only [cond_true] at h
          have hd : ∀ w', Dem ops (memsOf ops) i w w' := fun w' => by unfold Dem; rw [ho]; exact .inr ⟨hnq, fun hf => by rw [hl] at hf; cases hf⟩
          have hS' : ∀ w', (∃ k ∈ memsOf ops, (listed.setIfInBounds i true).getD k true = false) → Old w0 w' := fun w' ⟨k, hk, hlk⟩ => by
            have h1 := late_spec hcl hi hl hk
            have h2 := getD_set_true (i := i) h1
            rcases Nat.lt_or_ge k (listed.setIfInBounds i true).size with h' | h'
            · simp at h'; simp [h'] at hlk h2; rw [hlk] at h2; cases h2
            · simp [Array.getElem?_eq_none h'] at h2
          rcases guardW_sound ha h with ⟨hw, e', ha', h'⟩ | ⟨hw, e', ha', h'⟩
          · rw [if_pos hw]
            exact .inl (opW_plain ha' hb1.2 h' fun v w' hr => ⟨hd w', ih (ha'.putE hb1.1 v) (hcl.set hi) (hS' w') hr⟩)
          · rw [if_neg (by simp [hw])]
            exact ⟨hd w, ih (ha'.putE hb1.1 undef) (hcl.set hi) (hS' w) h'⟩
        | false =>
          rw [hl] at h
          simp only [cond_false] at h
          have hS' : (∃ k ∈ memsOf ops, (listed.setIfInBounds i true).getD k true = false) → Old w0 w := fun ⟨k, hk, hlk⟩ => by
            refine hS ⟨k, hk, ?_⟩
            by_cases hik : i = k
            · subst hik; exact hun
            · rw [getD_set_ne true hik] at hlk; exact hlk
          have hd : ∀ w', Old w w' → Dem ops (memsOf ops) i w w' := fun w' ho2 => by unfold Dem; rw [ho]; exact .inr ⟨hnq, fun _ => ho2⟩
          rcases guardW_sound ha h with ⟨hw, e', ha', h'⟩ | ⟨hw, e', ha', h'⟩
          · rw [if_pos hw]
            exact .inl (opW_plain ha' hb1.2 h' fun v w' hr => ⟨hd w' hr.1, ih (ha'.putE hb1.1 v) (hcl.set hi) (fun hh => (hS' hh).trans hr.1) hr.2⟩)
          · rw [if_neg (by simp [hw])]
            exact ⟨hd w (Old.refl w), ih (ha'.putE hb1.1 undef) (hcl.set hi) hS' h'⟩

theorem wpOpIn_of {r : Option Nat} {m : Nat} {ops : Array Oper} {i : Nat} {K : Act → World → Prop} {a : Act} {w : World} (hok : ∀ (o : Oper), ops[i]? = some o → okOp o.op = true) (ho : ∀ a w, ¬ Q .outgrown a w) (h : wpOp P ops Q i K a w) : wpOpIn (FR r) m P ops Q i K a w := by
  unfold wpOp at h
  unfold wpOpIn
  split
  · rename_i hn; simp only [hn] at h; exact h
  · rename_i o hn
    simp only [hn] at h
    split
    · rename_i hw
      rw [if_pos hw] at h
      rcases h with h | ⟨_, a', w', h⟩
      · exact wpIn_of_wp (hok o hn) h
      · exact (ho _ _ h).elim
    · rename_i hw
      rw [if_neg hw] at h
      exact ⟨fun _ _ => trivial, h⟩

theorem wpAnyIn_of {r : Option Nat} {m : Nat} {ops : Array Oper} (hok : ∀ (i : Nat) (o : Oper), ops[i]? = some o → okOp o.op = true) (ho : ∀ a w, ¬ Q .outgrown a w) : ∀ {f : Nat} {listed : Array Bool} {a : Act} {w : World},
    wpAny P .any ops Q f listed a w → wpAnyIn (FR r) m P .any ops Q f listed a w
  | 0, _, _, _, h => h
  | _ + 1, _, _, _, h => ⟨h.1, fun i hi => wpOpIn_of (hok i) ho (wpOp_mono (fun _ _ h' => wpAnyIn_of hok ho h') (h.2 i hi))⟩

theorem region_draw {r : Option Nat} {m : Nat} {ops : List Oper} {id : Nat} {K : Env → World → Prop} {e : Env} {a : Act} {w : World} (hm : P.follows .mixedOrders = true) (hK : ∀ e a w, Agrees n ds e a → K e w → Q .normal a w) (hQ : ∀ c a w, ¬ Q (.panic c) a w) (ho : ∀ a w, ¬ Q .outgrown a w)
    (hsel : ops.all (fun o => okOp o.op) = true) (ha : Agrees n ds e a) (h : anyW P n ops (memsOf ops) w.drew ops.length (Array.replicate ops.length false) e w.drew K) : (Code.region id ops.toArray true).wpIn (FR r) m P Q a w := by
  have hok : ∀ (i : Nat) (o : Oper), ops.toArray[i]? = some o → okOp o.op = true := fun i o hi => List.all_eq_true.1 hsel o (List.mem_of_getElem? (by simpa using hi))
  have hs : ∀ (j : Nat) (o : Oper) cs b, ops.toArray[j]? = some o → o.op ≠ .select cs b := fun j o cs b hj hc => by have := hok j o hj; rw [hc] at this; cases this
  refine wpIn_region_any hm (wpAnyIn_of hok ho (wpAny_of_N _ _ _ _ (anyW_sound (n := n) hK hQ hs ha ?_ (fun _ => Old.refl _) h)))
  exact closed_start _ _
end
end Go.V

/- Code. -/
namespace Go.V

/-! ### a scope through which the run goes without a jump -/
section
variable {F : Fence} {n : Nat} {P : Program} {b : Frame} {a : Act} {k : List Item} {cs : List Frame} {w : World} {Q : Exit → Act → World → Prop}
theorem stepR_scope {c : Code} : step P (lone (b.atR a (.code (.scope c) :: k)) cs w) = .next (lone (b.atR a (.code c :: .inScope c :: k)) cs w) :=
  step_lone_go (by simp [stepG, stepG.exec, Frame.atR])
theorem stepR_inScope {c : Code} : step P (lone (b.atR a (.inScope c :: k)) cs w) = .next (lone (b.atR a k) cs w) :=
  step_lone_go (by simp [stepG, stepG.exec, Frame.atR])
theorem wpIn_scope_straight {c : Code} (h : c.wpIn F n P (Exit.noGoto Q) a w) : (Code.scope c).wpIn F n P Q a w := by
  intro b k cs hro hb hr
  have h0 : (lone (b.atR a (.code (.scope c) :: k)) cs w).fenced P F := fenced_calm hb hr rfl
  obtain ⟨e, a₁, w₁, hq, harr⟩ := h b (.inScope c :: k) cs hro hb hr
  cases e with
  | normal => exact ⟨.normal, a₁, w₁, hq, .head h0 stepR_scope (StepsIn.trans harr (.one (fenced_calm hb hr rfl) stepR_inScope))⟩
  | exit id =>
    have hx : exitTo id (.inScope c :: k) = exitTo id k := by simp [exitTo]
    exact ⟨.exit id, a₁, w₁, hq, fun k' hk => .head h0 stepR_scope (harr.1 k' (by rw [hx]; exact hk)),
      fun hr' hk => let ⟨k₁, h1, h2⟩ := harr.2 hr' (by rw [hx]; exact hk); ⟨k₁, h1, .head h0 stepR_scope h2⟩⟩
  | goto l => exact hq.elim
  | ret => exact ⟨_, a₁, w₁, hq, .of_steps (.one h0 stepR_scope) harr⟩
  | panic ch => exact ⟨_, a₁, w₁, hq, .of_steps (.one h0 stepR_scope) harr⟩
  | outgrown => exact ⟨_, a₁, w₁, hq, .of_steps (.one h0 stepR_scope) harr⟩
end

/-! ### what stands in the slots of a loop -/
@[reducible] def Tl : List Sh1 → Type
  | [] => Unit
  | s :: r => s.T × Tl r
def mkl : (l : List Sh1) → Tl l → List Value
  | [], _ => []
  | s :: r, x => s.mk x.1 :: mkl r x.2
@[reducible] def Sh.T : Sh → Type
  | .one s => s.T
  | .agg l => Tl l
  | .lst => List Value
def Sh.mk : (s : Sh) → s.T → Value
  | .one s, x => s.mk x
  | .agg l, x => .agg ⟨mkl l x⟩
  | .lst, x => .agg ⟨x⟩
@[reducible] def Tup : List (Nat × Sh) → Type
  | [] => Unit
  | y :: r => y.2.T × Tup r
def mkEnv : (l : List (Nat × Sh)) → Tup l → Env
  | [], _ => []
  | y :: r, x => (y.1, y.2.mk x.1) :: mkEnv r x.2

def Sh1.get : (s : Sh1) → Value → (s.T → Prop) → Prop
  | .int k, v, K => match v with
    | .int k' n => cond (k == k') (K n) False
    | _ => False
  | .bool, v, K => match v with
    | .bool b => K b
    | _ => False
  | .str, v, K => match v with
    | .string s => K s
    | _ => False
  | .ptr, v, K => match v with
    | .pointer p => K p
    | _ => False
  | .sl, v, K => match v with
    | .slice p l c => K ⟨p, l, c⟩
    | _ => False
  | .map, v, K => match v with
    | .map p => K p
    | _ => False
  | .flt k, v, K => match v with
    | .float k' n => cond (k == k') (K n) False
    | _ => False
  | .raw, v, K => K v

theorem Sh1.get_elim : ∀ {s : Sh1} {v : Value} {K : s.T → Prop}, s.get v K → ∃ x, v = s.mk x ∧ K x := by
  intro s v K h
  cases s <;> simp only [Sh1.get] at h
  case int k =>
    split at h
    · rename_i k' n
      cases hb : (k == k') with
      | false => rw [hb] at h; exact h.elim
      | true =>
        rw [hb] at h
        have hk : k = k' := by simpa using hb
        subst hk
        exact ⟨n, rfl, h⟩
    · exact h.elim
  case flt k =>
    split at h
    · rename_i k' n
      cases hb : (k == k') with
      | false => rw [hb] at h; exact h.elim
      | true =>
        rw [hb] at h
        have hk : k = k' := by simpa using hb
        subst hk
        exact ⟨n, rfl, h⟩
    · exact h.elim
  case raw => exact ⟨v, rfl, h⟩
  all_goals
    split at h
    · exact ⟨_, rfl, h⟩
    · exact h.elim

def getl : (l : List Sh1) → List Value → (Tl l → Prop) → Prop
  | [], vs, K => match vs with
    | [] => K ()
    | _ => False
  | s :: r, vs, K => match vs with
    | v :: rest => s.get v fun x => getl r rest fun y => K (x, y)
    | [] => False

theorem getl_elim : ∀ {l : List Sh1} {vs : List Value} {K : Tl l → Prop}, getl l vs K → ∃ x, vs = mkl l x ∧ K x
  | [], vs, K, h => by
    cases vs with
    | nil => exact ⟨(), rfl, h⟩
    | cons v r => exact h.elim
  | s :: r, vs, K, h => by
    cases vs with
    | nil => exact h.elim
    | cons v rest =>
      obtain ⟨x, h1, h⟩ := Sh1.get_elim h
      obtain ⟨y, h2, h⟩ := getl_elim h
      exact ⟨(x, y), by rw [h1, h2]; rfl, h⟩

def Sh.get : (s : Sh) → Value → (s.T → Prop) → Prop
  | .one s, v, K => s.get v K
  | .agg l, v, K => match v with
    | .agg cs => getl l cs.toList K
    | _ => False
  | .lst, v, K => match v with
    | .agg cs => K cs.toList
    | _ => False

theorem Sh.get_elim : ∀ {s : Sh} {v : Value} {K : s.T → Prop}, s.get v K → ∃ x, v = s.mk x ∧ K x
  | .one s, v, K, h => Sh1.get_elim h
  | .agg l, v, K, h => by
    cases v with
    | agg cs =>
      obtain ⟨x, h1, h2⟩ := getl_elim (l := l) (vs := cs.toList) (K := K) h
      exact ⟨x, by show Value.agg cs = .agg ⟨mkl l x⟩; rw [← h1], h2⟩
    | _ => exact h.elim
  | .lst, v, K, h => by
    cases v with
    | agg cs => exact ⟨cs.toList, rfl, h⟩
    | _ => exact h.elim

/-- What stands in some slots. -/
def collect : (l : List (Nat × Sh)) → Env → (Tup l → Prop) → Prop
  | [], _, K => K ()
  | y :: r, e, K => match look e y.1 with
    | some v => y.2.get v fun x => collect r e fun z => K (x, z)
    | none => False

theorem collect_elim {n : Nat} {ds : List Deferred} {a : Act} : ∀ {l : List (Nat × Sh)} {e : Env} {K : Tup l → Prop}, Agrees n ds e a → collect l e K → ∃ x, Agrees n ds (mkEnv l x) a ∧ K x
  | [], e, K, ha, h => ⟨(), ⟨ha.1, ha.2.1, fun t v hl => by cases hl⟩, h⟩
  | y :: r, e, K, ha, h => by
    unfold collect at h
    split at h
    · rename_i v hv
      obtain ⟨x, h1, h⟩ := Sh.get_elim h
      obtain ⟨z, hz, h⟩ := collect_elim ha h
      refine ⟨(x, z), ⟨ha.1, ha.2.1, fun t u hl => ?_⟩, h⟩
      simp only [mkEnv, V.look] at hl
      cases hb : Nat.beq y.1 t with
      | true =>
        rw [hb] at hl
        simp only [cond_true, Option.some.injEq] at hl
        have := Nat.eq_of_beq_eq_true hb
        rw [← hl, ← this, ← h1]
        exact ha.2.2 _ _ hv
      | false => rw [hb] at hl; exact hz.2.2 t u hl
    · exact h.elim

/-! ### loops -/
abbrev Exits := List (Option Nat × List (Nat × Sh))
structure Ann where
  ins : List (Nat × Sh)
  exits : Exits

/-- What comes behind each way out. -/
@[reducible] def KT : Exits → Type
  | [] => Unit
  | x :: r => (Tup x.2 → World → Prop) × KT r

def sameX : Option Nat → Option Nat → Bool
  | none, none => true
  | some a, some b => Nat.beq a b
  | _, _ => false
theorem sameX_eq {x k : Option Nat} (h : sameX x k = true) : x = k := by
  cases x <;> cases k <;> simp only [sameX, Bool.false_eq_true] at h
  · rfl
  · rw [Nat.eq_of_beq_eq_true h]

def selQ : (xs : Exits) → KT xs → Option Nat → Env → World → Prop
  | [], _, _, _, _ => False
  | x :: r, Ks, k, e, w => cond (sameX x.1 k) (collect x.2 e fun y => Ks.1 y w) (selQ r Ks.2 k e w)
def selA (n : Nat) (ds : List Deferred) : (xs : Exits) → KT xs → Option Nat → Act → World → Prop
  | [], _, _, _, _ => False
  | x :: r, Ks, k, a, w => cond (sameX x.1 k) (∃ y, Agrees n ds (mkEnv x.2 y) a ∧ Ks.1 y w) (selA n ds r Ks.2 k a w)

theorem selA_of_selQ {n : Nat} {ds : List Deferred} {a : Act} {w : World} {e : Env} {k : Option Nat} (ha : Agrees n ds e a) : ∀ {xs : Exits} {Ks : KT xs}, selQ xs Ks k e w → selA n ds xs Ks k a w
  | [], _, h => h
  | x :: r, Ks, h => by
    unfold selQ at h
    unfold selA
    cases hb : sameX x.1 k with
    | true => rw [hb] at h; obtain ⟨y, hy, hk⟩ := collect_elim ha h; exact ⟨y, hy, hk⟩
    | false => rw [hb] at h; exact selA_of_selQ ha h

/-- A post of code, lifted to frames. -/
def lift (n : Nat) (ds : List Deferred) (Q : Exit → Env → World → Prop) : Exit → Act → World → Prop := fun x a w => ∃ e, Agrees n ds e a ∧ Q x e w

def loopPost (n : Nat) (ds : List Deferred) (A : Ann) (Ks : KT A.exits) : Exit → Act → World → Prop := fun ex a w => match ex with
  | .ret => selA n ds A.exits Ks none a w
  | .exit id => selA n ds A.exits Ks (some id) a w
  | _ => False

/-- The loop of a body: from what stands in its slots; what comes behind its ways out. -/
def LoopP (P : Program) (n : Nat) (body : Code) (A : Ann) (x : Tup A.ins) (w : World) (Ks : KT A.exits) : Prop :=
  ∀ r m ds a, Agrees n ds (mkEnv A.ins x) a → (Code.loop body).wpIn (FR r) m P (loopPost n ds A Ks) a w

def firstReg : Code → Nat
  | .region id _ _ => id
  | .seq a _ => firstReg a
  | .block _ c => firstReg c
  | .loop c => firstReg c
  | .scope c => firstReg c
  | _ => 0

def exitQ (Q : Exit → Env → World → Prop) (outs : List (Nat × Sh)) : Option Nat → Tup outs → World → Prop
  | none, y, w => Q .ret (mkEnv outs y) w
  | some id, y, w => Q (.exit id) (mkEnv outs y) w
def mkKs (Q : Exit → Env → World → Prop) : (xs : Exits) → KT xs
  | [] => ()
  | x :: r => (exitQ Q x.2 x.1, mkKs Q r)

def WP (P : Program) (n : Nat) (ann : Nat → Option Ann) : Code → (Exit → Env → World → Prop) → Env → World → Prop
  | .skip, Q, e, w => Q .normal e w
  | .region _ ops draw, Q, e, w => cond draw
      (cond (ops.toList.all fun o => okOp o.op) (anyW P n ops.toList (memsOf ops.toList) w.drew ops.toList.length (Array.replicate ops.toList.length false) e w.drew fun e w => Q .normal e w) False)
      (opsW P n ops.toList ops.toList e w fun e w => Q .normal e w)
  | .seq a b, Q, e, w => WP P n ann a (fun x e w => match x with
    | .normal => WP P n ann b Q e w
    | x => Q x e w) e w
  | .cond c a b, Q, e, w => match ev e c with
    | some (.bool t) => cond t (WP P n ann a Q e w) (WP P n ann b Q e w)
    | _ => False
  | .block id c, Q, e, w => WP P n ann c (fun x e w => match x with
    | .exit id' => cond (Nat.beq id' id) (Q .normal e w) (Q (.exit id') e w)
    | x => Q x e w) e w
  | .loop c, Q, e, w => match ann (firstReg c) with
    | some A => collect A.ins e fun x => LoopP P n c A x w (mkKs Q A.exits)
    | none => False
  | .scope c, Q, e, w => WP P n ann c (fun x e w => match x with
    | .goto _ => False
    | x => Q x e w) e w
  | .ret, Q, e, w => Q .ret e w
  | .exit id, Q, e, w => Q (.exit id) e w
  | .label _, Q, e, w => Q .normal e w
  | _, _, _, _ => False

/-- No way out but by its end, a return, or a block's end. -/
def Calm (Q : Exit → Env → World → Prop) : Prop := (∀ c e w, ¬ Q (.panic c) e w) ∧ ∀ e w, ¬ Q .outgrown e w

section
variable {P : Program} {n : Nat} {ds : List Deferred} {ann : Nat → Option Ann}

theorem selA_mk {Q : Exit → Env → World → Prop} {a : Act} {w : World} : ∀ {xs : Exits} {k : Option Nat}, selA n ds xs (mkKs Q xs) k a w → ∃ (o : List (Nat × Sh)) (y : Tup o), Agrees n ds (mkEnv o y) a ∧ exitQ Q o k y w
  | [], k, h => h.elim
  | x :: xs, k, h => by
    unfold selA at h
    cases hb : sameX x.1 k with
    | true =>
      rw [hb] at h
      obtain ⟨y, hy, hk⟩ := h
      refine ⟨x.2, y, hy, ?_⟩
      rw [← sameX_eq hb]
      exact hk
    | false => rw [hb] at h; exact selA_mk h

theorem WP_sound (hm : P.follows .mixedOrders = true) (r : Option Nat) (m : Nat) : ∀ {c : Code} {Q : Exit → Env → World → Prop} {e : Env} {a : Act} {w : World}, Calm Q → Agrees n ds e a → WP P n ann c Q e w → c.wpIn (FR r) m P (lift n ds Q) a w := by
  intro c
  induction c with
  | skip => exact fun _ ha h => wpIn_skip ⟨_, ha, h⟩
  | region id ops draw =>
    intro Q e a w hQ ha h
    unfold WP at h
    cases draw with
    | false =>
      simp only [cond_false] at h
      exact wpIn_region_list (by simpa using opsW_sound (Q := lift n ds Q) (fun e a w ha h => ⟨e, ha, h⟩) ha h)
    | true =>
      simp only [cond_true] at h
      cases hb : (ops.toList.all fun o => okOp o.op) with
      | false => rw [hb] at h; exact h.elim
      | true =>
        rw [hb] at h
        have := region_draw (P := P) (r := r) (m := m) (id := id) (Q := lift n ds Q) hm (fun e a w ha h => ⟨e, ha, h⟩) (fun c a w h => let ⟨e, _, h⟩ := h; hQ.1 c e w h) (fun a w h => let ⟨e, _, h⟩ := h; hQ.2 e w h) hb ha h
        simpa using this
  | seq x y ihx ihy =>
    intro Q e a w hQ ha h
    unfold WP at h
    refine wpIn_seq (wpIn_mono (ihx (by exact ⟨fun c e w h => hQ.1 c e w h, fun e w h => hQ.2 e w h⟩) ha h) ?_)
    rintro ex a w ⟨e, ha, h⟩
    cases ex with
    | normal => exact ihy hQ ha h
    | _ => exact ⟨e, ha, h⟩
  | cond c x y ihx ihy =>
    intro Q e a w hQ ha h
    unfold WP at h
    split at h
    · rename_i t ht
      have he := ha.ev ht
      cases t with
      | true => exact wpIn_cond_true he (ihx hQ ha h)
      | false => exact wpIn_cond_false he (ihy hQ ha h)
    · exact h.elim
  | block id c ih =>
    intro Q e a w hQ ha h
    unfold WP at h
    refine wpIn_block (wpIn_mono (ih (by exact ⟨fun c e w h => hQ.1 c e w h, fun e w h => hQ.2 e w h⟩) ha h) ?_)
    rintro ex a w ⟨e, ha, h⟩
    cases ex with
    | exit id' =>
      simp only [Exit.inBlock]
      simp only [] at h
      cases hb : Nat.beq id' id with
      | true => rw [hb] at h; rw [if_pos (Nat.eq_of_beq_eq_true hb)]; exact ⟨e, ha, h⟩
      | false => rw [hb] at h; rw [if_neg (fun he => by rw [he, Nat.beq_refl] at hb; cases hb)]; exact ⟨e, ha, h⟩
    | _ => exact ⟨e, ha, h⟩
  | loop c _ =>
    intro Q e a w hQ ha h
    unfold WP at h
    split at h
    · rename_i A hA
      obtain ⟨x, hx, h⟩ := collect_elim ha h
      refine wpIn_mono (h r m ds a hx) ?_
      intro ex a w h
      cases ex with
      | ret => obtain ⟨o, y, hy, hk⟩ := selA_mk h; exact ⟨_, hy, hk⟩
      | exit id => obtain ⟨o, y, hy, hk⟩ := selA_mk h; exact ⟨_, hy, hk⟩
      | _ => exact h.elim
    · exact h.elim
  | rangeFunc f ps asg body _ _ => intro Q e a w _ _ h; unfold WP at h; exact h.elim
  | exit id => exact fun _ ha h => wpIn_exit ⟨_, ha, h⟩
  | scope c ih =>
    intro Q e a w hQ ha h
    unfold WP at h
    refine wpIn_scope_straight (wpIn_mono (ih (by exact ⟨fun c e w h => hQ.1 c e w h, fun e w h => hQ.2 e w h⟩) ha h) ?_)
    rintro ex a w ⟨e, ha, h⟩
    cases ex with
    | goto l => exact h.elim
    | _ => exact ⟨e, ha, h⟩
  | label l => exact fun _ ha h => wpIn_label ⟨_, ha, h⟩
  | goto l => intro Q e a w _ _ h; unfold WP at h; exact h.elim
  | ret => exact fun _ ha h => wpIn_ret ⟨_, ha, h⟩
  | refuse s => intro Q e a w _ _ h; unfold WP at h; exact h.elim

/-- What a round of a loop must show. -/
def bodyQ (A : Ann) (Ks : KT A.exits) (Kn : Tup A.ins → World → Prop) : Exit → Env → World → Prop
  | .normal, e, w => collect A.ins e fun x => Kn x w
  | .ret, e, w => selQ A.exits Ks none e w
  | .exit id, e, w => selQ A.exits Ks (some id) e w
  | _, _, _ => False

theorem rounds_more {F : Fence} {m : Nat} {body : Code} {Q : Exit → Act → World → Prop} : ∀ (k : Nat) (a : Act) (w : World), Code.roundsIn F m P body Q k a w → Code.roundsIn F m P body Q (k + 1) a w
  | 0, a, w, h => h.elim
  | k + 1, a, w, h => by
    rw [roundsIn_succ] at *
    refine wpIn_mono h fun ex a w h => ?_
    cases ex with
    | normal => exact rounds_more k a w h
    | _ => exact h

theorem rounds_add {F : Fence} {m : Nat} {body : Code} {Q : Exit → Act → World → Prop} (d : Nat) {k : Nat} {a : Act} {w : World} (h : Code.roundsIn F m P body Q k a w) : Code.roundsIn F m P body Q (k + d) a w := by
  induction d with
  | zero => exact h
  | succ d ih => exact rounds_more _ _ _ ih

theorem LoopP_intro (hm : P.follows .mixedOrders = true) {body : Code} {A : Ann} {x : Tup A.ins} {w : World} {Ks : KT A.exits} (I : Tup A.ins → World → Prop) (μ : Tup A.ins → World → Nat) (h0 : I x w)
    (step : ∀ x w, I x w → WP P n ann body (bodyQ A Ks fun x' w' => I x' w' ∧ μ x' w' < μ x w) (mkEnv A.ins x) w) : LoopP P n body A x w Ks := by
  intro r k ds
  have key : ∀ m x w, μ x w = m → I x w → ∀ a, Agrees n ds (mkEnv A.ins x) a → Code.roundsIn (FR r) k P body (loopPost n ds A Ks) (m + 1) a w := by
    intro m
    induction m using Nat.strongRecOn with
    | _ m ih =>
      intro x w hμ hI a ha
      rw [roundsIn_succ]
      refine wpIn_mono (WP_sound hm r k ⟨fun c e w h => h, fun e w h => h⟩ ha (step x w hI)) ?_
      rintro ex a' w' ⟨e, ha', h⟩
      cases ex with
      | normal =>
        obtain ⟨x', hx', hI', hlt⟩ := collect_elim ha' h
        have h1 := ih (μ x' w') (by omega) x' w' rfl hI' a' hx'
        have h2 := rounds_add (m - (μ x' w' + 1)) h1
        rw [show μ x' w' + 1 + (m - (μ x' w' + 1)) = m by omega] at h2
        exact h2
      | ret => exact selA_of_selQ ha' h
      | exit id => exact selA_of_selQ ha' h
      | goto l => exact h.elim
      | panic c => exact h.elim
      | outgrown => exact h.elim
  intro a ha
  exact wpIn_loop_rounds _ (key _ x w rfl h0 a ha)

/-! ### functions -/
def initEnv : Nat → List Value → Env
  | _, [] => []
  | i, v :: r => (i, v) :: initEnv (i + 1) r

def resW (P : Program) (e : Env) (w : World) : List ResultVar → (List Value → Prop) → Prop
  | [], K => K []
  | .tmp t :: r, K => wi (look e t) fun v => resW P e w r fun vs => K (v :: vs)
  | .cell t ty :: r, K => match look e t with
    | some (.pointer p) => NN p fun a => LdW P ty w a fun v => resW P e w r fun vs => K (v :: vs)
    | _ => False

def one1 (vs : List Value) : Value := match vs with
  | [v] => v
  | vs => .tuple ⟨vs⟩

def retQ (P : Program) (rs : List ResultVar) (K : Value → World → Prop) : Exit → Env → World → Prop
  | .normal, e, w => resW P e w rs fun vs => K (one1 vs) w
  | .ret, e, w => resW P e w rs fun vs => K (one1 vs) w
  | _, _, _ => False

theorem initEnv_agrees (args : List Value) (fn : Func) (h : args.length ≤ fn.ntmps) : Agrees fn.ntmps [] (initEnv 0 args) { tmps := ⟨args⟩ ++ Array.replicate (fn.ntmps - args.length) undef, defers := [] } := by
  refine ⟨by simp; omega, rfl, ?_⟩
  have key : ∀ (l pre : List Value) t v, V.look (initEnv pre.length l) t = some v → (pre ++ l)[t]? = some v := by
    intro l
    induction l with
    | nil => intro pre t v h; cases h
    | cons x r ih =>
      intro pre t v h
      simp only [initEnv, V.look] at h
      cases hb : Nat.beq pre.length t with
      | true =>
        rw [hb] at h
        simp only [cond_true, Option.some.injEq] at h
        have := Nat.eq_of_beq_eq_true hb
        subst this
        simp [h]
      | false =>
        rw [hb] at h
        have := ih (pre ++ [x]) t v (by simpa using h)
        simpa using this
  intro t v hl
  have h1 := key args [] t v hl
  simp only [List.nil_append] at h1
  have hlt := (List.getElem?_eq_some_iff.1 h1).1
  rw [Array.getElem?_append_left (by simpa using hlt)]
  simpa using h1

def rdRes (tmps : Array Value) : ResultVar → Sem Value
  | .tmp t => pure (tmps.getD t undef)
  | .cell ad t => do loadVar t (← asAddr (tmps.getD ad undef))

theorem resW_sound {e : Env} {a : Act} {w : World} (ha : Agrees n ds e a) : ∀ {rs : List ResultVar} {K : List Value → Prop}, resW P e w rs K →
    ∃ vs, (rs.mapM (rdRes a.tmps)).run P w = .ok vs w ∧ K vs
  | [], K, h => ⟨[], rfl, h⟩
  | .tmp t :: r, K, h => by
    obtain ⟨v, hv, h⟩ := wi_elim h
    obtain ⟨vs, h1, h2⟩ := resW_sound ha h
    refine ⟨v :: vs, ?_, h2⟩
    rw [List.mapM_cons]
    simp only [rdRes, ha.look hv, Sem.run_bind, Sem.run_pure, Result.andThen_ok, h1]
  | .cell t ty :: r, K, h => by
    unfold resW at h
    split at h
    · rename_i p hp
      obtain ⟨ad, had, h3⟩ := NN_elim h
      subst had
      obtain ⟨v, hv, h4⟩ := LdW_sound h3
      obtain ⟨vs, h1, h2⟩ := resW_sound ha h4
      refine ⟨v :: vs, ?_, h2⟩
      have has : (asAddr (.pointer (some ad))).run P w = .ok ad w := rfl
      rw [List.mapM_cons]
      simp only [rdRes, ha.look hp, Sem.run_bind, has, Sem.run_pure, Result.andThen_ok, hv w (Old.refl w), h1]
    · exact h.elim

theorem results_run {fn : Func} {a : Act} {w : World} {vs : List Value} (h : (fn.results.toList.mapM (rdRes a.tmps)).run P w = .ok vs w) : (results fn a.tmps).run P w = .ok (one1 vs) w := by
  have he : results fn a.tmps = (do let vs ← fn.results.mapM (rdRes a.tmps); pure (if h : vs.size = 1 then vs[0] else .tuple vs)) := by
    have : (fun r : ResultVar => (match r with
      | .tmp t => pure (a.tmps.getD t undef)
      | .cell ad t => do loadVar t (← asAddr (a.tmps.getD ad undef)) : Sem Value)) = rdRes a.tmps := by funext r; cases r <;> rfl
    rw [← this]
    rfl
  rw [he, Array.mapM_eq_mapM_toList]
  simp only [Sem.run_bind, Sem.run_map, h, Result.andThen_ok, Sem.run_pure]
  match vs with
  | [v] => rfl
  | [] => rfl
  | x :: y :: r =>
    have : ¬ (List.toArray (x :: y :: r)).size = 1 := by simp
    rw [dif_neg this]
    rfl

theorem ret_of_WP (hm : P.follows .mixedOrders = true) {f : FuncId} {fn : Func} {c : Code} {args : List Value} {w : World} {K : Value → World → Prop} (hf : P.funcs[f]? = some fn) (hb : fn.body = some c) (hn : Nat.ble args.length fn.ntmps = true)
    (h : WP P fn.ntmps ann c (retQ P fn.results.toList K) (initEnv 0 args) w) : Ret P f args w K := by
  unfold Ret
  refine calls_of_wp hf hb (wpIn_wide (n := 0).1 (wpIn_mono (WP_sound hm none 0 ⟨fun _ _ _ h => h, fun _ _ h => h⟩ (initEnv_agrees args fn (Nat.le_of_ble_eq_true hn)) h) ?_))
  rintro ex a w ⟨e, ha, h⟩
  cases ex with
  | normal =>
    obtain ⟨vs, h1, h2⟩ := resW_sound ha h
    exact ⟨ha.2.1, one1 vs, results_run h1, one1 vs, rfl, h2⟩
  | ret =>
    obtain ⟨vs, h1, h2⟩ := resW_sound ha h
    exact ⟨ha.2.1, one1 vs, results_run h1, one1 vs, rfl, h2⟩
  | _ => exact h.elim
end
end Go.V

/- Words of the printed forms. -/
namespace Go.V
def LI (w : World) (a : Addr) (K : Int → Prop) : Prop := ∃ n : Int, w.cell? a = some (.int .i64 n) ∧ K n
def LK (k : IntKind) (w : World) (a : Addr) (K : Int → Prop) : Prop := ∃ n : Int, w.cell? a = some (.int k n) ∧ K n
def LB (w : World) (a : Addr) (K : Bool → Prop) : Prop := ∃ n : Bool, w.cell? a = some (.bool n) ∧ K n
def LP (w : World) (a : Addr) (K : Option Addr → Prop) : Prop := ∃ n : Option Addr, w.cell? a = some (.pointer n) ∧ K n
def LS (w : World) (a : Addr) (K : Option Addr → Nat → Nat → Prop) : Prop := ∃ (p : Option Addr) (l c : Nat), w.cell? a = some (.slice p l c) ∧ K p l c
def LT (w : World) (a : Addr) (K : ByteArray → Prop) : Prop := ∃ n : ByteArray, w.cell? a = some (.string n) ∧ K n
def LM (w : World) (a : Addr) (K : Option Nat → Prop) : Prop := ∃ n : Option Nat, w.cell? a = some (.map n) ∧ K n
def LF (k : FloatKind) (w : World) (a : Addr) (K : Nat → Prop) : Prop := ∃ n : Nat, w.cell? a = some (.float k n) ∧ K n
def LV (w : World) (a : Addr) (K : Value → Prop) : Prop := ∃ v : Value, w.cell? a = some v ∧ K v

def bitI (op : BinOp) (k : IntKind) (x y : Int) : Int := match op with
  | .and => k.wrap (BitVec.ofInt k.bits x &&& BitVec.ofInt k.bits y).toNat
  | .or => k.wrap (BitVec.ofInt k.bits x ||| BitVec.ofInt k.bits y).toNat
  | .xor => k.wrap (BitVec.ofInt k.bits x ^^^ BitVec.ofInt k.bits y).toNat
  | _ => k.wrap (BitVec.ofInt k.bits x &&& ~~~(BitVec.ofInt k.bits y)).toNat

def sub : List Nat → Code → Code
  | [], c => c
  | 0 :: r, .seq a _ => sub r a
  | _ :: r, .seq _ b => sub r b
  | 0 :: r, .cond _ a _ => sub r a
  | _ :: r, .cond _ _ b => sub r b
  | _ :: r, .block _ c => sub r c
  | _ :: r, .loop c => sub r c
  | _ :: r, .scope c => sub r c
  | 0 :: r, .rangeFunc _ _ a _ => sub r a
  | _ :: r, .rangeFunc _ _ _ b => sub r b
  | _, c => c
def bodyOf (f : Func) : Code := match f.body with
  | some c => c
  | none => .skip
end Go.V

/- A range over a function: once in a function's body, in no loop. -/
namespace Go.V

def marks : Option Nat → List Deferred
  | none => []
  | some r => [{ target := .collected r, args := #[] }]

/-- A loop's record: it is of these tuple of slots. -/
structure RecOf (n : Nat) (e : Env) (ps : Array Tmp) (asg body : Code) (rec : Loop) : Prop where
  params : rec.params = ps
  assign : rec.assign = asg
  body : rec.body = body
  tmps : Agrees n [] e { tmps := rec.tmps, defers := [] }

def LoopAt (w : World) (l : Nat) (rec : Loop) (st : LoopState) (pd : Option Code) : Prop := w.heap[l]? = some (.loop { rec with state := st, pending := pd })
def World.putLoop (w : World) (l : Nat) (rec : Loop) (st : LoopState) (pd : Option Code) : World := World.setObj w l (.loop { rec with state := st, pending := pd })

/-- The function that is ranged over, called with yield; what comes behind the loop, by its end or by a return within it. -/
def RangeP (P : Program) (n : Nat) (ps : Array Tmp) (asg body : Code) (e : Env) (fv : Value) (w : World) (Kn Kr : World → Prop) : Prop :=
  ∀ rec : Loop, RecOf n e ps asg body rec →
    CvW P false fv [.func (.yield (w.heap.size + 1)) #[] #[]] ((w.alloc (.deferred (some []))).alloc (.loop { rec with state := .ready, pending := none })) fun _ w3 =>
      (∃ st, st ≠ LoopState.busy ∧ LoopAt w3 (w.heap.size + 1) rec st none ∧ Kn (World.putLoop w3 (w.heap.size + 1) rec .exhausted none)) ∨
      (∃ st, st ≠ LoopState.busy ∧ LoopAt w3 (w.heap.size + 1) rec st (some .ret) ∧ Kr (World.putLoop w3 (w.heap.size + 1) rec .exhausted (some .ret)))

def WPF (P : Program) (n : Nat) (ann : Nat → Option Ann) (A : List (Nat × Sh)) : Code → (Exit → Option Nat → Env → World → Prop) → Env → World → Prop
  | .seq a b, Q, e, w => WPF P n ann A a (fun x d e w => match x with
    | .normal => (match d with
      | none => WPF P n ann A b Q e w
      | some r => WP P n ann b (fun x e w => Q x (some r) e w) e w)
    | x => Q x d e w) e w
  | .block id c, Q, e, w => WPF P n ann A c (fun x d e w => match x with
    | .exit id' => cond (Nat.beq id' id) (Q .normal d e w) (Q (.exit id') d e w)
    | x => Q x d e w) e w
  | .scope c, Q, e, w => WPF P n ann A c (fun x d e w => match x with
    | .goto _ => False
    | x => Q x d e w) e w
  | .rangeFunc g ps asg body, Q, e, w => wi (ev e g) fun fv => collect A e fun x => RangeP P n ps asg body (mkEnv A x) fv w (fun w' => Q .normal (some w.heap.size) e w') (fun w' => Q .ret (some w.heap.size) e w')
  | .skip, Q, e, w => Q .normal none e w
  | .region id ops draw, Q, e, w => WP P n ann (.region id ops draw) (fun x e w => Q x none e w) e w
  | .cond c x y, Q, e, w => WP P n ann (.cond c x y) (fun x e w => Q x none e w) e w
  | .loop c, Q, e, w => WP P n ann (.loop c) (fun x e w => Q x none e w) e w
  | .ret, Q, e, w => Q .ret none e w
  | .exit id, Q, e, w => Q (.exit id) none e w
  | .label _, Q, e, w => Q .normal none e w
  | _, _, _, _ => False

section
variable {P : Program} {n : Nat} {ann : Nat → Option Ann} {A : List (Nat × Sh)}

def liftF (n : Nat) (Q : Exit → Option Nat → Env → World → Prop) : Exit → Act → World → Prop := fun x a w => ∃ d e, Agrees n (marks d) e a ∧ Q x d e w
def CalmF (Q : Exit → Option Nat → Env → World → Prop) : Prop := (∀ c d e w, ¬ Q (.panic c) d e w) ∧ ∀ d e w, ¬ Q .outgrown d e w

theorem rangeP_sound {g : Operand} {ps : Array Tmp} {asg body : Code} {Q : Exit → Option Nat → Env → World → Prop} {e e' : Env} {a : Act} {w : World} {fv : Value} (ha : Agrees n [] e a) (ha' : Agrees n [] e' a) (hg : ev e g = some fv)
    (h : RangeP P n ps asg body e' fv w (fun w' => Q .normal (some w.heap.size) e w') (fun w' => Q .ret (some w.heap.size) e w')) : (Code.rangeFunc g ps asg body).wpIn (FR none) 0 P (liftF n Q) a w := by
  refine wpIn_rangeFunc fun fn _ => ?_
  let rec0 : Loop := { state := .ready, pending := none, fn, tmps := a.tmps, params := ps, assign := asg, body, defers := w.heap.size }
  have h := h rec0 ⟨rfl, rfl, rfl, ⟨ha'.1, rfl, ha'.2.2⟩⟩
  unfold CvW at h
  split at h
  case h_2 => exact h.elim
  case h_3 => exact h.elim
  rename_i f first cap hfv0
  cases hb : hasBody P f with
  | false => rw [hb] at h; exact h.elim
  | true =>
  rw [hb] at h
  simp only [cond_true] at h
  let w2 : World := (w.alloc (.deferred (some []))).alloc (.loop rec0)
  refine ⟨w.heap.size + 1, marks (some w.heap.size), w2, { target := .fn (.func f) cap, args := first ++ #[.func (.yield (w.heap.size + 1)) #[] #[]] }, w2, f, first ++ #[.func (.yield (w.heap.size + 1)) #[] #[]] ++ cap, w2, ?_, ?_, fun _ _ => trivial, ?_, fun hd => (by cases hd), ?_⟩
  · simp [Instr.enterLoop, FR, newObj, Sem.run, Fence.wide, w2, rec0, marks]
  · have e1 := ha.ev hg
    simp only [resolve, e1, Deferred.ofValue, Sem.run_pure]
    simp [Act.eval]
  · simp only [invoke, callFunc_run hb]
  · refine callsIn_FR ?_
    have hm : (first ++ #[Value.func (.yield (w.heap.size + 1)) #[] #[]] ++ cap : Array Value) = ⟨first.toList ++ [.func (.yield (w.heap.size + 1)) #[] #[]] ++ cap.toList⟩ := by apply Array.ext'; simp
    rw [hm]
    refine Calls.mono h ?_
    rintro e' w3 ⟨v, rfl, h⟩
    have hend : ∀ st pd, st ≠ LoopState.busy → LoopAt w3 (w.heap.size + 1) rec0 st pd → (Instr.endLoop (w.heap.size + 1)).run P w3 = .ok pd (World.putLoop w3 (w.heap.size + 1) rec0 .exhausted pd) := by
      intro st pd hst hl
      unfold LoopAt at hl
      simp [Instr.endLoop, Instr.getLoop, getObj, setObj, Sem.run, hl, hst, World.putLoop, World.setObj]
    have hag : Agrees n (marks (some w.heap.size)) e { a with defers := marks (some w.heap.size) ++ a.defers } := ⟨ha.1, by show _ ++ a.defers = _; rw [ha.2.1]; rfl, ha.2.2⟩
    rcases h with ⟨st, hst, hl, hk⟩ | ⟨st, hst, hl, hk⟩
    · exact ⟨_, _, hend st _ hst hl, _, e, hag, hk⟩
    · exact ⟨_, _, hend st _ hst hl, wpIn_ret ⟨_, e, hag, hk⟩⟩

theorem WPF_sound (hm : P.follows .mixedOrders = true) : ∀ {c : Code} {Q : Exit → Option Nat → Env → World → Prop} {e : Env} {a : Act} {w : World}, CalmF Q → Agrees n [] e a → WPF P n ann A c Q e w → c.wpIn (FR none) 0 P (liftF n Q) a w := by
  have hwp : ∀ {c : Code} {Q : Exit → Option Nat → Env → World → Prop} {e : Env} {a : Act} {w : World} (d : Option Nat), CalmF Q → Agrees n (marks d) e a → WP P n ann c (fun x e w => Q x d e w) e w → c.wpIn (FR none) 0 P (liftF n Q) a w := by
    intro c Q e a w d hQ ha h
    refine wpIn_mono (WP_sound hm none 0 (Q := fun x e w => Q x d e w) ⟨fun c e w h => hQ.1 c d e w h, fun e w h => hQ.2 d e w h⟩ ha h) ?_
    rintro ex a w ⟨e, ha, h⟩
    exact ⟨d, e, ha, h⟩
  intro c
  induction c with
  | skip => exact fun _ ha h => wpIn_skip ⟨none, _, ha, h⟩
  | region id ops draw => exact fun hQ ha h => hwp none hQ ha h
  | seq x y ihx ihy =>
    intro Q e a w hQ ha h
    unfold WPF at h
    refine wpIn_seq (wpIn_mono (ihx (by exact ⟨fun c d e w h => hQ.1 c d e w h, fun d e w h => hQ.2 d e w h⟩) ha h) ?_)
    rintro ex a w ⟨d, e, ha, h⟩
    cases ex with
    | normal =>
      cases d with
      | none => exact ihy hQ ha h
      | some r => exact hwp (some r) hQ ha h
    | _ => exact ⟨d, e, ha, h⟩
  | cond c x y _ _ => exact fun hQ ha h => hwp none hQ ha h
  | block id c ih =>
    intro Q e a w hQ ha h
    unfold WPF at h
    refine wpIn_block (wpIn_mono (ih (by exact ⟨fun c d e w h => hQ.1 c d e w h, fun d e w h => hQ.2 d e w h⟩) ha h) ?_)
    rintro ex a w ⟨d, e, ha, h⟩
    cases ex with
    | exit id' =>
      simp only [Exit.inBlock]
      simp only [] at h
      cases hb : Nat.beq id' id with
      | true => rw [hb] at h; rw [if_pos (Nat.eq_of_beq_eq_true hb)]; exact ⟨d, e, ha, h⟩
      | false => rw [hb] at h; rw [if_neg (fun he => by rw [he, Nat.beq_refl] at hb; cases hb)]; exact ⟨d, e, ha, h⟩
    | _ => exact ⟨d, e, ha, h⟩
  | loop c _ => exact fun hQ ha h => hwp none hQ ha h
  | rangeFunc f ps asg body _ _ =>
    intro Q e a w hQ ha h
    unfold WPF at h
    obtain ⟨fv, hfv, h⟩ := wi_elim h
    obtain ⟨x, hx, h⟩ := collect_elim ha h
    exact rangeP_sound ha hx hfv h
  | exit id => exact fun _ ha h => wpIn_exit ⟨none, _, ha, h⟩
  | scope c ih =>
    intro Q e a w hQ ha h
    unfold WPF at h
    refine wpIn_scope_straight (wpIn_mono (ih (by exact ⟨fun c d e w h => hQ.1 c d e w h, fun d e w h => hQ.2 d e w h⟩) ha h) ?_)
    rintro ex a w ⟨d, e, ha, h⟩
    cases ex with
    | goto l => exact h.elim
    | _ => exact ⟨d, e, ha, h⟩
  | label l => exact fun _ ha h => wpIn_label ⟨none, _, ha, h⟩
  | goto l => intro Q e a w _ _ h; unfold WPF at h; exact h.elim
  | ret => exact fun _ ha h => wpIn_ret ⟨none, _, ha, h⟩
  | refuse s => intro Q e a w _ _ h; unfold WPF at h; exact h.elim

/-- At a function's end the block of the rounds' deferred calls is shut. -/
def takeW (d : Option Nat) (w : World) (K : World → Prop) : Prop := match d with
  | none => K w
  | some r => w.heap[r]? = some (.deferred (some [])) ∧ K (World.setObj w r (.deferred none))

def retF (P : Program) (rs : List ResultVar) (K : Value → World → Prop) : Exit → Option Nat → Env → World → Prop
  | .normal, d, e, w => takeW d w fun w => resW P e w rs fun vs => K (one1 vs) w
  | .ret, d, e, w => takeW d w fun w => resW P e w rs fun vs => K (one1 vs) w
  | _, _, _, _ => False

theorem ret_of_WPF (hm : P.follows .mixedOrders = true) {f : FuncId} {fn : Func} {c : Code} {args : List Value} {w : World} {K : Value → World → Prop} (hf : P.funcs[f]? = some fn) (hb : fn.body = some c) (hn : Nat.ble args.length fn.ntmps = true)
    (h : WPF P fn.ntmps ann A c (retF P fn.results.toList K) (initEnv 0 args) w) : Ret P f args w K := by
  unfold Ret
  refine callsIn_wide.1 (callsIn_of_wp_marks (F := Fence.wide) (n := 0) hf hb trivial (wpIn_mono (WPF_sound hm ⟨fun _ _ _ _ h => h, fun _ _ _ h => h⟩ (initEnv_agrees args fn (Nat.le_of_ble_eq_true hn)) h) ?_))
  have key : ∀ d e a w, Agrees fn.ntmps (marks d) e a → (takeW d w fun w => resW P e w fn.results.toList fun vs => K (one1 vs) w) → LeavesInM Fence.wide 0 P fn a.tmps (fun e w' => ∃ v, e = Ending.returned v ∧ K v w') a.defers .returning w := by
    intro d e a w ha h
    rw [ha.2.1]
    have hres : ∀ w, (resW P e w fn.results.toList fun vs => K (one1 vs) w) → LeavesInM Fence.wide 0 P fn a.tmps (fun e w' => ∃ v, e = Ending.returned v ∧ K v w') [] .returning w := by
      intro w h
      obtain ⟨vs, h1, h2⟩ := resW_sound ha h
      exact ⟨one1 vs, results_run h1, one1 vs, rfl, h2⟩
    cases d with
    | none => exact hres w h
    | some r =>
      obtain ⟨h1, h2⟩ := h
      refine ⟨fun h => (by cases h), .inl ⟨r, _, rfl, ?_, hres _ h2⟩⟩
      simp [Instr.takeDeferred, getObj, setObj, Sem.run, h1, World.setObj]
  rintro ex a w ⟨d, e, ha, h⟩
  cases ex with
  | normal => exact key d e a w ha h
  | ret => exact key d e a w ha h
  | _ => exact h.elim

/-! ### a round -/
def zipEnv : List Tmp → List Value → Env → Env
  | t :: ts, v :: vs, e => zipEnv ts vs ((t, v) :: e)
  | _, _, e => e

def BusyW (w : World) (l : Nat) (rec : Loop) (pd : Option Code) (K : World → Prop) : Prop := LoopAt w l rec .ready pd ∧ K (World.putLoop w l rec .busy pd)
def EndW (w : World) (l : Nat) (rec : Loop) (K : Value → World → Prop) : Prop := (∃ pd, LoopAt w l rec .busy pd) ∧ K (.bool true) (World.putLoop w l rec .ready none)
def StopW (w : World) (l : Nat) (rec : Loop) (K : Value → World → Prop) : Prop := (∃ pd, LoopAt w l rec .busy pd) ∧ K (.bool false) (World.putLoop w l rec .done (some .ret))

def roundQ (l : Nat) (rec : Loop) (K : Value → World → Prop) : Exit → Env → World → Prop
  | .normal, _, w => EndW w l rec K
  | .ret, _, w => StopW w l rec K
  | _, _, _ => False
def asgQ (P : Program) (n : Nat) (ann : Nat → Option Ann) (body : Code) (l : Nat) (rec : Loop) (pd : Option Code) (K : Value → World → Prop) : Exit → Env → World → Prop
  | .normal, e, w => BusyW w l rec pd fun w => WP P n ann body (roundQ l rec K) e w
  | _, _, _ => False

theorem zip_agrees : ∀ {ts : List Tmp} {vs : List Value} {e : Env} {tmps : Array Value}, Agrees n [] e { tmps := tmps, defers := [] } → (ts.all fun t => Nat.blt t n) = true →
    Agrees n [] (zipEnv ts vs e) { tmps := (ts.zip vs).foldl (fun tmps (t, a) => tmps.setIfInBounds t a) tmps, defers := [] }
  | [], _, _, _, ha, _ => ha
  | t :: ts, [], _, _, ha, _ => ha
  | t :: ts, v :: vs, e, tmps, ha, hl => by
    simp only [List.all_cons, Bool.and_eq_true] at hl
    obtain ⟨h1, h2⟩ := hl
    have hlt : t < n := Nat.le_of_ble_eq_true h1
    refine zip_agrees (e := (t, v) :: e) (tmps := tmps.setIfInBounds t v) ⟨by simpa using ha.1, rfl, ?_⟩ h2
    intro t' v' hl'
    simp only [V.look] at hl'
    have hsz : t < tmps.size := Nat.lt_of_lt_of_eq hlt ha.1.symm
    cases hb : Nat.beq t t' with
    | true =>
      rw [hb] at hl'
      simp only [cond_true, Option.some.injEq] at hl'
      have := Nat.eq_of_beq_eq_true hb
      subst this
      simp [hl', hsz]
    | false =>
      rw [hb] at hl'
      have hne : t ≠ t' := fun he => by rw [he, Nat.beq_refl] at hb; cases hb
      have := ha.2.2 t' v' hl'
      simp only [Array.getElem?_setIfInBounds_ne hne]
      exact this

theorem yieldW_of (hm : P.follows .mixedOrders = true) {e : Env} {ps : Array Tmp} {asg body : Code} {rec : Loop} {l : Nat} {st : LoopState} {pd : Option Code} {args : List Value} {w : World} {K : Value → World → Prop} (hr : RecOf n e ps asg body rec) (hl : LoopAt w l rec st pd)
    (hp : (ps.toList.all fun t => Nat.blt t n) = true) (hs : args.length = ps.toList.length)
    (h : WP P n ann asg (asgQ P n ann body l rec pd K) (zipEnv ps.toList args e) w) : YieldW P l args w K := by
  have hl' := hl
  unfold LoopAt at hl'
  refine ⟨rec.fn, (ps.toList.zip args).foldl (fun tmps (t, a) => tmps.setIfInBounds t a) rec.tmps, asg, body, ?_, ?_⟩
  · have hsz : (⟨args⟩ : Array Value).size = rec.params.size := by rw [hr.params]; simpa using hs
    have hz : rec.params.zip ⟨args⟩ = ⟨ps.toList.zip args⟩ := by rw [hr.params]; apply Array.ext'; simp
    have hgl : (Instr.getLoop l).run P w = .ok { rec with state := st, pending := pd } w := by simp [Instr.getLoop, getObj, Sem.run, hl']
    have hne : ¬ (⟨args⟩ : Array Value).size ≠ rec.params.size := fun h => h hsz
    simp only [Instr.yield, Sem.run_bind, hgl, Result.andThen_ok, if_neg hne, Sem.run_pure, hz, hr.assign, hr.body, ← Array.foldl_toList]
  · refine roundIn_of_wpIn trivial ?_
    refine wpIn_mono (WP_sound hm (some l) 0 (Q := asgQ P n ann body l rec pd K) ⟨fun _ _ _ h => h, fun _ _ h => h⟩ (zip_agrees hr.tmps hp) h) ?_
    rintro ex a w1 ⟨e1, ha, h⟩
    cases ex with
    | normal =>
      obtain ⟨hl1, h⟩ := h
      unfold LoopAt at hl1
      refine ⟨World.putLoop w1 l rec .busy pd, ?_, ?_⟩
      · simp [Instr.beginRound, Instr.getLoop, getObj, setObj, Sem.run, hl1, World.putLoop, World.setObj]
      · refine wpIn_mono (WP_sound hm (some l) 0 (Q := roundQ l rec K) ⟨fun _ _ _ h => h, fun _ _ h => h⟩ ha h) ?_
        rintro ex a w2 ⟨e2, _, h⟩
        cases ex with
        | normal =>
          obtain ⟨⟨pd2, hl2⟩, h⟩ := h
          unfold LoopAt at hl2
          exact ⟨.bool true, World.putLoop w2 l rec .ready none, by simp [Instr.endRound, Instr.getLoop, getObj, setObj, Sem.run, hl2, World.putLoop, World.setObj], _, rfl, h⟩
        | ret =>
          obtain ⟨⟨pd2, hl2⟩, h⟩ := h
          unfold LoopAt at hl2
          exact ⟨.bool false, World.putLoop w2 l rec .done (some .ret), by simp [Instr.endRound, Instr.getLoop, getObj, setObj, Sem.run, hl2, World.putLoop, World.setObj], _, rfl, h⟩
        | _ => exact h.elim
    | _ => exact h.elim
end
end Go.V

/- Facts about memory, for the forms that are printed. -/
namespace Go.V

/-! ### reading, as a case split that simp goes through -/
theorem LI_eq {w : World} {a : Addr} {K : Int → Prop} : LI w a K = (match w.cell? a with
    | some (.int .i64 n) => K n
    | _ => False) := by
  unfold LI
  apply propext
  constructor
  · rintro ⟨n, h, k⟩; rw [h]; exact k
  · intro h; split at h
    · exact ⟨_, ‹_›, h⟩
    · exact h.elim
theorem LI_i {w : World} {a : Addr} {n : Int} {K : Int → Prop} (h : w.cell? a = some (.int .i64 n)) (k : K n) : LI w a K := ⟨n, h, k⟩
theorem LK_i {k : IntKind} {w : World} {a : Addr} {n : Int} {K : Int → Prop} (h : w.cell? a = some (.int k n)) (k : K n) : LK ‹_› w a K := ⟨n, h, k⟩
theorem LB_i {w : World} {a : Addr} {n : Bool} {K : Bool → Prop} (h : w.cell? a = some (.bool n)) (k : K n) : LB w a K := ⟨n, h, k⟩
theorem LP_i {w : World} {a : Addr} {n : Option Addr} {K : Option Addr → Prop} (h : w.cell? a = some (.pointer n)) (k : K n) : LP w a K := ⟨n, h, k⟩
theorem LS_i {w : World} {a : Addr} {p : Option Addr} {l c : Nat} {K : Option Addr → Nat → Nat → Prop} (h : w.cell? a = some (.slice p l c)) (k : K p l c) : LS w a K := ⟨p, l, c, h, k⟩
theorem LT_i {w : World} {a : Addr} {n : ByteArray} {K : ByteArray → Prop} (h : w.cell? a = some (.string n)) (k : K n) : LT w a K := ⟨n, h, k⟩
theorem LM_i {w : World} {a : Addr} {n : Option Nat} {K : Option Nat → Prop} (h : w.cell? a = some (.map n)) (k : K n) : LM w a K := ⟨n, h, k⟩
theorem LV_i {w : World} {a : Addr} {n : Value} {K : Value → Prop} (h : w.cell? a = some n) (k : K n) : LV w a K := ⟨n, h, k⟩
theorem NN_some {a : Addr} {K : Addr → Prop} : NN (some a) K = K a := rfl
theorem NM_some {a : Nat} {K : Nat → Prop} : NM (some a) K = K a := rfl

/-! ### addresses -/
theorem add_zero (a : Addr) : a.add 0 = a := rfl
theorem add_mk (b o n : Nat) : (⟨b, o, none⟩ : Addr).add n = ⟨b, o + n, none⟩ := by
  unfold Addr.add
  split <;> simp_all
theorem at_mk (b o : Nat) (i : Int) (c : Nat) : Addr.at_ ⟨b, o, none⟩ i c = ⟨b, o + i.toNat * c, none⟩ := by
  unfold Addr.at_
  exact add_mk _ _ _

/-! ### blocks -/
def Blk (w : World) (b : Nat) (T : TypeId) (cs : List Value) : Prop := w.heap[b]? = some (.cells ⟨cs⟩ T (0, 0))

section
variable {w w' : World} {b b' i : Nat} {T T' : TypeId} {cs cs' : List Value} {v : Value} {o : Obj}

theorem Blk.lt (h : Blk w b T cs) : b < w.heap.size := (Array.getElem?_eq_some_iff.1 h).1
theorem Blk.cell (h : Blk w b T cs) : w.cell? ⟨b, i, none⟩ = cs[i]? := by
  unfold Blk at h
  simp [World.cell?, h]
theorem Blk.frozen (h : Blk w b T cs) {a : Addr} (ha : a.block = b) : w.frozen? a = false := by
  unfold Blk at h
  simp [World.frozen?, ha, h]
theorem Blk.alloc (h : Blk w b T cs) : Blk (w.alloc o) b T cs := by
  have := h.lt
  unfold Blk at *
  simp only [World.alloc, Array.getElem?_push]
  rw [if_neg (by omega), h]
theorem Blk.new : Blk (w.alloc (.cells ⟨cs⟩ T)) w.heap.size T cs := by
  unfold Blk
  simp only [World.alloc, Array.getElem?_push, if_true]
theorem Blk.drew (h : Blk w b T cs) : Blk w.drew b T cs := h
theorem Blk.set (h : Blk w b T cs) : Blk (w.setCell ⟨b, i, none⟩ v) b T (cs.set i v) := by
  unfold Blk at *
  simp only [World.setCell, Array.getElem?_modify, if_true, h, Option.map_some]
  simp
theorem Blk.set_ne (h : Blk w b T cs) (hb : b ≠ b') : Blk (w.setCell ⟨b', i, none⟩ v) b T cs := by
  unfold Blk at *
  simp only [World.setCell, Array.getElem?_modify]
  rw [if_neg (fun e => hb e.symm), h]

theorem St_i {K : World → Prop} (h : Blk w b T cs) (hi : i < cs.length) (hv : One v True) (k : K (w.setCell ⟨b, i, none⟩ v)) : St w ⟨b, i, none⟩ v K := by
  have hx : (∃ u, w.cell? ⟨b, i, none⟩ = some u) ∧ w.frozen? ⟨b, i, none⟩ = false ∧ K (w.setCell ⟨b, i, none⟩ v) := ⟨⟨cs[i], by rw [h.cell]; exact List.getElem?_eq_getElem hi⟩, h.frozen rfl, k⟩
  unfold St
  cases v <;> first | exact hx | exact hv.elim

end

/-! ### numbers -/
theorem wrap64 {n : Int} (h1 : -9223372036854775808 ≤ n) (h2 : n ≤ 9223372036854775807) : IntKind.wrap .i64 n = n := by
  unfold IntKind.wrap
  simp only [IntKind.bits, IntKind.signed]
  simp only [Bool.true_and, decide_eq_true_eq, ge_iff_le]
  by_cases h : 0 ≤ n
  · have : n % 2 ^ 64 = n := Int.emod_eq_of_lt h (by omega)
    rw [this, if_neg (by omega)]
  · have : n % 2 ^ 64 = n + 2 ^ 64 := by omega
    rw [this, if_pos (by omega)]
    omega

/-! ### what a run owns -/
abbrev Ent := Nat × Obj
abbrev cl (b : Nat) (T : TypeId) (cs : List Value) : Ent := (b, .cells ⟨cs⟩ T (0, 0))

/-- Since w0 nothing that was there has changed; these rows, all newer, no two the same, hold this. -/
def Owns (w0 w : World) (Ls : List (List Ent)) : Prop :=
  w0.heap.size ≤ w.heap.size ∧ SameTo w0 w ∧ (∀ x ∈ Ls.flatten, w0.heap.size ≤ x.1 ∧ w.heap[x.1]? = some x.2) ∧ (Ls.flatten.map (·.1)).Nodup

def at2 : List (List Ent) → Nat → Nat → Option Ent
  | [], _, _ => none
  | s :: _, 0, j => s[j]?
  | _ :: r, k + 1, j => at2 r k j
def set2 : List (List Ent) → Nat → Nat → Ent → List (List Ent)
  | [], _, _, _ => []
  | s :: r, 0, j, x => s.set j x :: r
  | s :: r, k + 1, j, x => s :: set2 r k j x

section
variable {w0 w : World} {Ls Ls' : List (List Ent)} {x : Ent} {k j b i : Nat} {T : TypeId} {cs : List Value} {a : Addr} {v : Value}

theorem at2_mem : ∀ {Ls : List (List Ent)} {k j : Nat}, at2 Ls k j = some x → x ∈ Ls.flatten
  | [], _, _, h => by cases h
  | s :: r, 0, j, h => List.mem_flatten.2 ⟨s, by simp, List.mem_of_getElem? h⟩
  | s :: r, k + 1, j, h => by
    rw [List.flatten_cons]
    exact List.mem_append_right _ (at2_mem h)

theorem Owns.start : Owns w w [] := ⟨Nat.le_refl _, ⟨fun _ _ => rfl, rfl, rfl⟩, fun _ h => by simp at h, by simp⟩
theorem Owns.drew (h : Owns w0 w Ls) : Owns w0 w.drew Ls := ⟨h.1, ⟨h.2.1.get, h.2.1.os, h.2.1.output⟩, h.2.2⟩
theorem Owns.old (h : Owns w0 w Ls) : Old w0 w := ⟨h.1, h.2.1⟩
theorem Owns.get (h : Owns w0 w Ls) (hx : x ∈ Ls.flatten) : w.heap[x.1]? = some x.2 := (h.2.2.1 x hx).2
theorem Owns.lt (h : Owns w0 w Ls) (hx : x ∈ Ls.flatten) : x.1 < w.heap.size := (Array.getElem?_eq_some_iff.1 (h.get hx)).1
theorem Owns.blk (h : Owns w0 w Ls) (hx : cl b T cs ∈ Ls.flatten) : Blk w b T cs := h.get hx
theorem Owns.cell0 (h : Owns w0 w Ls) (hc : w0.cell? a = some v) : w.cell? a = some v := h.old.cell hc

theorem Owns.ge (k j : Nat) (h : Owns w0 w Ls) (hk : at2 Ls k j = some (cl b T cs)) : w0.heap.size ≤ b := (h.2.2.1 _ (at2_mem hk)).1
theorem Owns.row (k j : Nat) (h : Owns w0 w Ls) (hk : at2 Ls k j = some (cl b T cs)) : Blk w b T cs := h.blk (at2_mem hk)
theorem Owns.alloc (h : Owns w0 w Ls) (o : Obj) : Owns w0 (w.alloc o) ([(w.heap.size, o)] :: Ls) := by
  have hs := h.1
  refine ⟨by simp; omega, (h.old.alloc o).2, ?_, ?_⟩
  · intro x hx
    simp only [List.flatten_cons, List.mem_append, List.mem_singleton] at hx
    rcases hx with rfl | hx
    · exact ⟨hs, by simp only [World.alloc, Array.getElem?_push, if_true]⟩
    · have hl := h.lt hx
      refine ⟨(h.2.2.1 x hx).1, ?_⟩
      simp only [World.alloc, Array.getElem?_push]
      rw [if_neg (by omega)]
      exact h.get hx
  · simp only [List.flatten_cons, List.singleton_append, List.map_cons, List.nodup_cons]
    refine ⟨fun hm => ?_, h.2.2.2⟩
    obtain ⟨y, hy, he⟩ := List.mem_map.1 hm
    have := h.lt hy
    omega

theorem Owns.perm (h : Owns w0 w Ls) (hp : Ls'.flatten.Perm Ls.flatten) : Owns w0 w Ls' :=
  ⟨h.1, h.2.1, fun x hx => h.2.2.1 x (hp.mem_iff.1 hx), (hp.map _).nodup_iff.2 h.2.2.2⟩
theorem Owns.sub (h : Owns w0 w Ls) (hp : Ls'.flatten.Sublist Ls.flatten) : Owns w0 w Ls' :=
  ⟨h.1, h.2.1, fun x hx => h.2.2.1 x (hp.subset hx), h.2.2.2.sublist (hp.map _)⟩
theorem Owns.drop {s : List Ent} (h : Owns w0 w (s :: Ls)) : Owns w0 w Ls := h.sub (by simp)
theorem Owns.drops {s : List (List Ent)} (h : Owns w0 w (s ++ Ls)) : Owns w0 w Ls := h.sub (by simp)

theorem flatten_set2_fst {y : Ent} : ∀ {Ls : List (List Ent)} {k j : Nat}, at2 Ls k j = some y → x.1 = y.1 → (set2 Ls k j x).flatten.map (·.1) = Ls.flatten.map (·.1)
  | [], _, _, h, _ => by cases h
  | s :: r, 0, j, h, he => by
    simp only [set2, List.flatten_cons, List.map_append]
    congr 1
    rw [List.map_set]
    refine List.ext_getElem? fun i => ?_
    rw [List.getElem?_set]
    split
    · rename_i hij
      subst hij
      have hs : s[j]? = some y := h
      obtain ⟨hl, hy⟩ := List.getElem?_eq_some_iff.1 hs
      simp [hl, he, hy]
    · rfl
  | s :: r, k + 1, j, h, he => by
    simp only [set2, List.flatten_cons, List.map_append]
    rw [flatten_set2_fst (k := k) (Ls := r) h he]

theorem mem_set2 {y z : Ent} : ∀ {Ls : List (List Ent)} {k j : Nat}, at2 Ls k j = some y → (Ls.flatten.map (·.1)).Nodup → x.1 = y.1 → z ∈ (set2 Ls k j x).flatten → z = x ∨ (z ∈ Ls.flatten ∧ z.1 ≠ y.1) := by
  intro Ls k j hk hn he hz
  have hn' : ((set2 Ls k j x).flatten.map (·.1)).Nodup := by rw [flatten_set2_fst hk he]; exact hn
  have hmem : x ∈ (set2 Ls k j x).flatten := by
    clear hn hn' hz
    revert k j
    induction Ls with
    | nil => intro k j hk; cases hk
    | cons s r ih =>
      intro k j hk
      cases k with
      | zero =>
        have hs : s[j]? = some y := hk
        obtain ⟨hl, hy⟩ := List.getElem?_eq_some_iff.1 hs
        simp only [set2, List.flatten_cons, List.mem_append]
        left
        exact List.mem_iff_getElem?.2 ⟨j, by simp [hl]⟩
      | succ k => simp only [set2, List.flatten_cons, List.mem_append]; exact .inr (ih hk)
  by_cases hzx : z.1 = y.1
  · left
    have : ∀ {l : List Ent}, (l.map (·.1)).Nodup → z ∈ l → x ∈ l → z.1 = x.1 → z = x := by
      intro l
      induction l with
      | nil => intro _ h; cases h
      | cons u r ih =>
        intro hnd h1 h2 h3
        simp only [List.map_cons, List.nodup_cons] at hnd
        rcases List.mem_cons.1 h1 with rfl | h1 <;> rcases List.mem_cons.1 h2 with h2 | h2
        · exact h2.symm
        · exact absurd (List.mem_map.2 ⟨x, h2, h3.symm⟩) hnd.1
        · rw [h2] at h3; exact absurd (List.mem_map.2 ⟨z, h1, h3⟩) hnd.1
        · exact ih hnd.2 h1 h2 h3
    exact this hn' hz hmem (by rw [hzx, he])
  · right
    refine ⟨?_, hzx⟩
    clear hn hn' hmem
    revert k j
    induction Ls with
    | nil => intro k j hk; cases hk
    | cons s r ih =>
      intro k j hk hz
      cases k with
      | zero =>
        simp only [set2, List.flatten_cons, List.mem_append] at hz ⊢
        rcases hz with hz | hz
        · left
          rcases List.mem_or_eq_of_mem_set hz with h | h
          · exact h
          · rw [h] at hzx; exact absurd he hzx
        · exact .inr hz
      | succ k =>
        simp only [set2, List.flatten_cons, List.mem_append] at hz ⊢
        rcases hz with hz | hz
        · exact .inl hz
        · exact .inr (ih hk hz)

/-- An own row is overwritten. -/
theorem Owns.put {o o' : Obj} {w' : World} (h : Owns w0 w Ls) (hk : at2 Ls k j = some (b, o)) (hs : w'.heap.size = w.heap.size) (hb : w'.heap[b]? = some o') (ho : ∀ c, c ≠ b → w'.heap[c]? = w.heap[c]?) (hq : w'.os = w.os ∧ w'.output = w.output := by exact ⟨rfl, rfl⟩) : Owns w0 w' (set2 Ls k j (b, o')) := by
  have hm := at2_mem hk
  have hge := (h.2.2.1 _ hm).1
  refine ⟨by rw [hs]; exact h.1, ⟨fun c hc => ?_, hq.1.trans h.2.1.os, hq.2.trans h.2.1.output⟩, fun z hz => ?_, by rw [flatten_set2_fst (x := (b, o')) hk rfl]; exact h.2.2.2⟩
  · rw [ho c (by simp at hge; omega)]; exact h.2.1 c hc
  · rcases mem_set2 (x := (b, o')) hk h.2.2.2 rfl hz with rfl | ⟨hz, hne⟩
    · exact ⟨hge, hb⟩
    · exact ⟨(h.2.2.1 z hz).1, by rw [ho _ hne]; exact h.get hz⟩

theorem Owns.set (h : Owns w0 w Ls) (hk : at2 Ls k j = some (cl b T cs)) : Owns w0 (w.setCell ⟨b, i, none⟩ v) (set2 Ls k j (cl b T (cs.set i v))) := by
  have hb := h.blk (at2_mem hk)
  refine h.put hk (by simp) hb.set fun c hc => ?_
  simp only [World.setCell, Array.getElem?_modify]
  rw [if_neg fun e => hc e.symm]

/-! ### the steps -/
theorem new_i {K : Addr → World → Prop} (h : Owns w0 w Ls) (k : ∀ b w', Owns w0 w' ([cl b T cs] :: Ls) → K ⟨b, 0, none⟩ w') : NewW cs T w K := k _ _ (h.alloc _)
theorem li_i {K : Int → Prop} {n : Int} (h : Owns w0 w Ls) (hk : at2 Ls k j = some (cl b T cs)) (ha : a = ⟨b, i, none⟩) (hc : cs[i]? = some (.int .i64 n)) (hK : K n) : LI w a K :=
  ⟨n, by rw [ha, (h.blk (at2_mem hk)).cell, hc], hK⟩
theorem lk_i {q : IntKind} {K : Int → Prop} {n : Int} (h : Owns w0 w Ls) (hk : at2 Ls k j = some (cl b T cs)) (ha : a = ⟨b, i, none⟩) (hc : cs[i]? = some (.int q n)) (hK : K n) : LK q w a K :=
  ⟨n, by rw [ha, (h.blk (at2_mem hk)).cell, hc], hK⟩
theorem lb_i {K : Bool → Prop} {n : Bool} (h : Owns w0 w Ls) (hk : at2 Ls k j = some (cl b T cs)) (ha : a = ⟨b, i, none⟩) (hc : cs[i]? = some (.bool n)) (hK : K n) : LB w a K :=
  ⟨n, by rw [ha, (h.blk (at2_mem hk)).cell, hc], hK⟩
theorem lp_i {K : Option Addr → Prop} {n : Option Addr} (h : Owns w0 w Ls) (hk : at2 Ls k j = some (cl b T cs)) (ha : a = ⟨b, i, none⟩) (hc : cs[i]? = some (.pointer n)) (hK : K n) : LP w a K :=
  ⟨n, by rw [ha, (h.blk (at2_mem hk)).cell, hc], hK⟩
theorem ls_i {K : Option Addr → Nat → Nat → Prop} {p : Option Addr} {l c : Nat} (h : Owns w0 w Ls) (hk : at2 Ls k j = some (cl b T cs)) (ha : a = ⟨b, i, none⟩) (hc : cs[i]? = some (.slice p l c)) (hK : K p l c) : LS w a K :=
  ⟨p, l, c, by rw [ha, (h.blk (at2_mem hk)).cell, hc], hK⟩
theorem lt_i {K : ByteArray → Prop} {n : ByteArray} (h : Owns w0 w Ls) (hk : at2 Ls k j = some (cl b T cs)) (ha : a = ⟨b, i, none⟩) (hc : cs[i]? = some (.string n)) (hK : K n) : LT w a K :=
  ⟨n, by rw [ha, (h.blk (at2_mem hk)).cell, hc], hK⟩
theorem lm_i {K : Option Nat → Prop} {n : Option Nat} (h : Owns w0 w Ls) (hk : at2 Ls k j = some (cl b T cs)) (ha : a = ⟨b, i, none⟩) (hc : cs[i]? = some (.map n)) (hK : K n) : LM w a K :=
  ⟨n, by rw [ha, (h.blk (at2_mem hk)).cell, hc], hK⟩
theorem lv_i {K : Value → Prop} {n : Value} (h : Owns w0 w Ls) (hk : at2 Ls k j = some (cl b T cs)) (ha : a = ⟨b, i, none⟩) (hc : cs[i]? = some n) (hK : K n) : LV w a K :=
  ⟨n, by rw [ha, (h.blk (at2_mem hk)).cell, hc], hK⟩
theorem st_i {K : World → Prop} (h : Owns w0 w Ls) (hk : at2 Ls k j = some (cl b T cs)) (ha : a = ⟨b, i, none⟩) (hi : Nat.blt i cs.length = true) (hv : One v True) (hK : ∀ w', Owns w0 w' (set2 Ls k j (cl b T (cs.set i v))) → K w') : St w a v K := by
  subst ha
  exact St_i (h.blk (at2_mem hk)) (Nat.le_of_ble_eq_true hi) hv (hK _ (h.set hk))

theorem cells_of_blk {w : World} {b : Nat} {T : TypeId} {cs : List Value} (h : Blk w b T cs) {o : Nat} : ∀ {vs : List Value} {i : Nat}, (∀ j v, vs[j]? = some v → cs[o + (i + j)]? = some v) → CellsAt w ⟨b, o, none⟩ i vs
  | [], _, _ => trivial
  | v :: r, i, hv => ⟨by rw [add_mk, h.cell]; exact hv 0 v rfl, cells_of_blk h fun j u hu => by have := hv (j + 1) u hu; rw [show i + 1 + j = i + (j + 1) by omega]; exact this⟩
theorem ca_i (h : Owns w0 w Ls) (hk : at2 Ls k j = some (cl b T cs)) (ha : a = ⟨b, 0, none⟩) : CellsAt w a 0 cs := by
  subst ha
  exact cells_of_blk (h.blk (at2_mem hk)) fun j v hv => by simpa using hv
theorem bif_i {c : Bool} {A B : Prop} (h1 : c = true → A) (h2 : c = false → B) : cond c A B := by
  cases c
  · exact h2 rfl
  · exact h1 rfl

theorem bif_d {p : Prop} [Decidable p] {A B : Prop} (h1 : p → A) (h2 : ¬ p → B) : cond (decide p) A B := by
  by_cases h : p
  · rw [decide_eq_true h]; exact h1 h
  · rw [decide_eq_false h]; exact h2 h
theorem bif_eq {x y : Int} {A B : Prop} (h1 : x = y → A) (h2 : ¬ x = y → B) : cond (x == y) A B := by
  by_cases h : x = y
  · rw [beq_iff_eq.2 h]; exact h1 h
  · rw [beq_eq_false_iff_ne.2 h]; exact h2 h
theorem bif_ne {x y : Int} {A B : Prop} (h1 : ¬ x = y → A) (h2 : x = y → B) : cond (x != y) A B := by
  by_cases h : x = y
  · rw [show (x != y) = false by simp [h]]; exact h2 h
  · rw [show (x != y) = true by simp [h]]; exact h1 h
theorem bif_nb {c : Bool} {A B : Prop} (h1 : c = false → A) (h2 : c = true → B) : cond (!c) A B := by
  cases c
  · exact h1 rfl
  · exact h2 rfl
theorem val_i {K : Value → World → Prop} {v v' : Value} {w : World} (hK : K v w) (h : v = v') : K v' w := h ▸ hK

theorem nn_i {a : Addr} {K : Addr → Prop} (h : K a) : NN (some a) K := h
theorem nm_i {a : Nat} {K : Nat → Prop} (h : K a) : NM (some a) K := h
theorem eli_i {K : Int → Prop} {n x : Int} (h : Owns w0 w Ls) (hk : at2 Ls k j = some (cl b T cs)) (hc : cs[n.toNat]? = some (.int .i64 x)) (hK : K x) : LI w (Addr.at_ ⟨b, 0, none⟩ n 1) K :=
  li_i h hk (by rw [at_mk, Nat.zero_add, Nat.mul_one]) hc hK
theorem elb_i {K : Bool → Prop} {n : Int} {x : Bool} (h : Owns w0 w Ls) (hk : at2 Ls k j = some (cl b T cs)) (hc : cs[n.toNat]? = some (.bool x)) (hK : K x) : LB w (Addr.at_ ⟨b, 0, none⟩ n 1) K :=
  lb_i h hk (by rw [at_mk, Nat.zero_add, Nat.mul_one]) hc hK
theorem est_i {K : World → Prop} {n : Int} (h : Owns w0 w Ls) (hk : at2 Ls k j = some (cl b T cs)) (hi : n.toNat < cs.length) (hv : One v True) (hK : ∀ w', Owns w0 w' (set2 Ls k j (cl b T (cs.set n.toNat v))) → K w') : St w (Addr.at_ ⟨b, 0, none⟩ n 1) v K :=
  st_i h hk (by rw [at_mk, Nat.zero_add, Nat.mul_one]) (Nat.ble_eq_true_of_le hi) hv hK
theorem Owns.dropn (n : Nat) (h : Owns w0 w Ls) (e : Ls.drop n = Ls') : Owns w0 w Ls' := h.sub (by
  have : Ls.flatten = (Ls.take n).flatten ++ (Ls.drop n).flatten := by rw [← List.flatten_append, List.take_append_drop]
  rw [← e, this]
  exact List.sublist_append_right _ _)
theorem Owns.to (h : Owns w0 w Ls) (e : Ls = Ls') : Owns w0 w Ls' := e ▸ h

theorem newo_i {K : Addr → World → Prop} (h : Owns w0 w Ls) (k : ∀ b w', Owns w0 w' ([cl b T cs] :: Ls) → K ⟨b, 0, none⟩ w') : NewW cs T w fun a w' => Old w w' ∧ K a w' := ⟨(Old.refl w).alloc _, k _ _ (h.alloc _)⟩

/-! ### reading what stands from the first world on -/
def Has (w : World) (E : List Ent) : Prop := ∀ x ∈ E, w.heap[x.1]? = some x.2
theorem Owns.has (k : Nat) {E : List Ent} (h : Owns w0 w Ls) (hk : Ls[k]? = some E) : Has w E :=
  fun x hx => h.get (List.mem_flatten.2 ⟨E, List.mem_of_getElem? hk, hx⟩)
theorem Has.old {E : List Ent} {w' : World} (h : Has w E) (ho : Old w w') : Has w' E := fun x hx => ho.get (h x hx)
theorem Has.blk {E : List Ent} (h : Has w E) (hk : E[j]? = some (cl b T cs)) : Blk w b T cs := h _ (List.mem_of_getElem? hk)
theorem Owns.after {w' : World} (h : Owns w0 w Ls) (ho : Old w w') : Owns w0 w' Ls :=
  ⟨Nat.le_trans h.1 ho.1, (h.old.trans ho).2, fun x hx => ⟨(h.2.2.1 x hx).1, ho.get (h.get hx)⟩, h.2.2.2⟩
theorem Owns.at0 {E : List Ent} (h : Owns w0 w Ls) (hE : Has w0 E) (hk : E[j]? = some (cl b T cs)) : Blk w b T cs := (hE.old h.old).blk hk

theorem lir_i {E : List Ent} {K : Int → Prop} {n : Int} (h : Owns w0 w Ls) (hE : Has w0 E) (hk : E[j]? = some (cl b T cs)) (ha : a = ⟨b, i, none⟩) (hc : cs[i]? = some (.int .i64 n)) (hK : K n) : LI w a K :=
  ⟨n, by rw [ha, (h.at0 hE hk).cell, hc], hK⟩
theorem lbr_i {E : List Ent} {K : Bool → Prop} {n : Bool} (h : Owns w0 w Ls) (hE : Has w0 E) (hk : E[j]? = some (cl b T cs)) (ha : a = ⟨b, i, none⟩) (hc : cs[i]? = some (.bool n)) (hK : K n) : LB w a K :=
  ⟨n, by rw [ha, (h.at0 hE hk).cell, hc], hK⟩
theorem lpr_i {E : List Ent} {K : Option Addr → Prop} {n : Option Addr} (h : Owns w0 w Ls) (hE : Has w0 E) (hk : E[j]? = some (cl b T cs)) (ha : a = ⟨b, i, none⟩) (hc : cs[i]? = some (.pointer n)) (hK : K n) : LP w a K :=
  ⟨n, by rw [ha, (h.at0 hE hk).cell, hc], hK⟩
theorem lsr_i {E : List Ent} {K : Option Addr → Nat → Nat → Prop} {p : Option Addr} {l c : Nat} (h : Owns w0 w Ls) (hE : Has w0 E) (hk : E[j]? = some (cl b T cs)) (ha : a = ⟨b, i, none⟩) (hc : cs[i]? = some (.slice p l c)) (hK : K p l c) : LS w a K :=
  ⟨p, l, c, by rw [ha, (h.at0 hE hk).cell, hc], hK⟩
theorem elir_i {E : List Ent} {K : Int → Prop} {n x : Int} (h : Owns w0 w Ls) (hE : Has w0 E) (hk : E[j]? = some (cl b T cs)) (hc : cs[n.toNat]? = some (.int .i64 x)) (hK : K x) : LI w (Addr.at_ ⟨b, 0, none⟩ n 1) K :=
  lir_i h hE hk (by rw [at_mk, Nat.zero_add, Nat.mul_one]) hc hK
theorem elbr_i {E : List Ent} {K : Bool → Prop} {n : Int} {x : Bool} (h : Owns w0 w Ls) (hE : Has w0 E) (hk : E[j]? = some (cl b T cs)) (hc : cs[n.toNat]? = some (.bool x)) (hK : K x) : LB w (Addr.at_ ⟨b, 0, none⟩ n 1) K :=
  lbr_i h hE hk (by rw [at_mk, Nat.zero_add, Nat.mul_one]) hc hK

theorem CvW.mono {P : Program} {y : Bool} {fv : Value} {args : List Value} {K K' : Value → World → Prop} (h : CvW P y fv args w K) (hk : ∀ v w', K v w' → K' v w') : CvW P y fv args w K' := by
  unfold CvW at *
  split at h
  · cases hb : hasBody P _ with
    | false => rw [hb] at h; exact h.elim
    | true => rw [hb] at h; exact h.mono hk
  · cases y with
    | false => exact h.elim
    | true =>
      obtain ⟨f, tmps, asg, body, h1, h2⟩ := h
      exact ⟨f, tmps, asg, body, h1, h2.mono fun e' w' ⟨v, hv, hk'⟩ => ⟨v, hv, hk v w' hk'⟩⟩
  · exact h.elim

/-! ### rows that are written -/
theorem store_blk {P : Program} {w : World} {b : Nat} {T : TypeId} {cs : List Value} {i : Nat} {v : Value} (hb : Blk w b T cs) (hi : i < cs.length) (hv : One v True) : (store ⟨b, i, none⟩ v).run P w = .ok () (w.setCell ⟨b, i, none⟩ v) := by
  have hc : w.cell? ⟨b, i, none⟩ = some cs[i] := by rw [hb.cell]; exact List.getElem?_eq_getElem hi
  have hf : w.frozen? ⟨b, i, none⟩ = false := hb.frozen rfl
  cases v <;> first | exact hv.elim | simp [store, Sem.run, hc, hf]

theorem storeCells_blk {P : Program} {b i : Nat} {T : TypeId} : ∀ (vs : List Value) (q : Nat) (w : World) (cs : List Value), Blk w b T cs → i + q + vs.length ≤ cs.length → (∀ v ∈ vs, One v True) →
    ∃ w', (storeCells ⟨b, i, none⟩ vs q).run P w = .ok () w' ∧ w'.heap.size = w.heap.size ∧ Blk w' b T (cs.take (i + q) ++ vs ++ cs.drop (i + q + vs.length)) ∧ (∀ c, c ≠ b → w'.heap[c]? = w.heap[c]?) ∧ w'.os = w.os ∧ w'.output = w.output
  | [], q, w, cs, hb, hl, _ => ⟨w, by simp [storeCells], rfl, by simpa using hb, fun _ _ => rfl, rfl, rfl⟩
  | v :: vs, q, w, cs, hb, hl, hv => by
    simp only [List.length_cons] at hl
    have h1 := store_blk (P := P) (i := i + q) (v := v) hb (by omega) (hv v (by simp))
    obtain ⟨w', h2, h3, h4, h5, h6⟩ := storeCells_blk (P := P) (i := i) vs (q + 1) _ _ (hb.set (i := i + q) (v := v)) (by simp; omega) (fun u hu => hv u (by simp [hu]))
    refine ⟨w', by simp only [storeCells, add_mk, Sem.run_bind, h1, Result.andThen_ok, h2], by rw [h3]; simp, ?_, ?_, h6⟩
    · have e : (cs.set (i + q) v).take (i + (q + 1)) ++ vs ++ (cs.set (i + q) v).drop (i + (q + 1) + vs.length) = cs.take (i + q) ++ (v :: vs) ++ cs.drop (i + q + (v :: vs).length) := by
        rw [show i + (q + 1) = i + q + 1 by omega, List.take_succ_eq_append_getElem (by simp; omega), List.getElem_set_self, List.take_set_of_le (by omega), List.drop_set_of_lt (by omega), show i + q + 1 + vs.length = i + q + (v :: vs).length by simp; omega]
        simp
      rw [e] at h4
      exact h4
    · intro c hc
      rw [h5 c hc]
      simp only [World.setCell, Array.getElem?_modify]
      rw [if_neg fun e => hc e.symm]

theorem clw_i {K : World → Prop} {P : Program} {t el : TypeId} {inf : TypeInfo} {z : Value} {p : Option Addr} {l c : Nat} (h : Owns w0 w Ls) (ht : P.underlying t = some (.slice el)) (hi : P.info? el = some inf) (hz : inf.zero = some z) (hz1 : z.cells = #[z]) (hz2 : One z True) (hk : at2 Ls k j = some (cl b T cs))
    (hp : 0 < l → p = some ⟨b, i, none⟩) (hl : i + l ≤ cs.length) (hK : ∀ w', Owns w0 w' (set2 Ls k j (cl b T (cs.take i ++ List.replicate l z ++ cs.drop (i + l)))) → K w') : ClW P t (.slice p l c) w K := by
  have hb := h.blk (at2_mem hk)
  by_cases h0 : l = 0
  · subst h0
    refine ⟨w, fun ty => ?_, hK w ?_⟩
    · cases p <;> simp [Builtin.clear_, run_underlying ht]
    · have := h.put (o' := .cells ⟨cs⟩ T) hk rfl hb (fun _ _ => rfl) ⟨rfl, rfl⟩
      simpa using this
  · rw [hp (by omega)]
    obtain ⟨w', h1, h2, h3, h4, h5⟩ := storeCells_blk (P := P) (i := i) (List.replicate l z) 0 w cs hb (by simpa using hl) (fun v hv => by rw [List.eq_of_mem_replicate hv]; exact hz2)
    refine ⟨w', fun ty => ?_, hK w' ?_⟩
    · have hzc : (Builtin.zeroCells z.cells l).toList = List.replicate l z := by
        unfold Builtin.zeroCells
        rw [reps_eq, hz1]
        rfl
      obtain ⟨l', rfl⟩ : ∃ l', l = l' + 1 := ⟨l - 1, by omega⟩
      simp only [Builtin.clear_, List.getElem?_toArray, List.getElem?_cons_zero, Sem.run_bind, run_underlying ht, Result.andThen_ok, run_zero hi hz]
      simp [hzc, h1]
    · refine h.put hk h2 ?_ h4 h5
      simpa [Blk] using h3

/-- Some segments are brought to the front. -/
def pick1 : Nat → List (List Ent) → List (List Ent)
  | 0, L => L
  | _ + 1, [] => []
  | k + 1, s :: r => match pick1 k r with
    | [] => [s]
    | t :: r => t :: s :: r
theorem pick1_perm : ∀ (k : Nat) (L : List (List Ent)), (pick1 k L).flatten.Perm L.flatten
  | 0, L => .refl _
  | _ + 1, [] => .refl _
  | k + 1, s :: r => by
    have ih := pick1_perm k r
    unfold pick1
    generalize pick1 k r = q at ih
    cases q with
    | nil =>
      have : r.flatten = [] := List.nil_perm.1 (by simpa using ih)
      simp [this]
    | cons t q =>
      simp only [List.flatten_cons] at ih ⊢
      refine List.Perm.trans ?_ (List.Perm.append_left s ih)
      rw [← List.append_assoc, ← List.append_assoc]
      exact List.Perm.append_right _ List.perm_append_comm
theorem Owns.pick (k : Nat) (h : Owns w0 w Ls) : Owns w0 w (pick1 k Ls) := h.perm (pick1_perm k Ls)
end
end Go.V

/- Rows that grow. -/
namespace Go.V

/-- A slice that is owned whole: its block, length, capacity, its cells, the spare ones. -/
structure Rw where
  p : Option Nat
  n : Nat
  c : Nat
  xs : List Value
  sp : List Value
structure Rw.ok (r : Rw) (sz : Nat) : Prop where
  len : r.xs.length = r.n * sz
  cap : r.xs.length + r.sp.length = r.c * sz
  le : r.n ≤ r.c
  max : r.c ≤ maxLen
  nil : r.p = none → r.c = 0
def Rw.ent (r : Rw) (T : TypeId) : List Ent := match r.p with
  | none => []
  | some b => [cl b T (r.xs ++ r.sp)]
def Rw.at_ (r : Rw) : Option Addr := r.p.map fun b => ⟨b, 0, none⟩
def Rw.none_ : Rw := ⟨none, 0, 0, [], []⟩
theorem Rw.none_ok {sz : Nat} : Rw.none_.ok sz := ⟨by simp [Rw.none_], by simp [Rw.none_], Nat.le_refl _, Nat.zero_le _, fun _ => rfl⟩

section
variable {w0 w : World} {Ls : List (List Ent)} {P : Program} {t e : TypeId} {i : TypeInfo} {z : Value} {r : Rw}

theorem Owns.setObj {k j r : Nat} {o o' : Obj} (h : Owns w0 w Ls) (hk : at2 Ls k j = some (r, o)) : Owns w0 (World.setObj w r o') (set2 Ls k j (r, o')) := by
  have hg := h.get (at2_mem hk)
  have hlt := h.lt (at2_mem hk)
  refine h.put hk (by simp [World.setObj]) ?_ fun c hc => ?_
  · simp only [World.setObj]
    exact Array.getElem?_setIfInBounds_self_of_lt hlt
  · simp only [World.setObj]
    exact Array.getElem?_setIfInBounds_ne (fun e => hc e.symm)
theorem mg_some {k j r c : Nat} {es : Array MapEntry} {x : Int} {q : Nat} {n : Int} (h : Owns w0 w Ls) (hk : at2 Ls k j = some (r, .map es c)) (hf : Instr.findNow (.int .i64) (.int .i64 x) es.toList 0 = some (some (q, .int .i64 n))) : MapGet w r .i64 x .i64 n true :=
  ⟨es, c, h.get (at2_mem hk), .inl ⟨q, hf, rfl⟩⟩
theorem mg_none {k j r c : Nat} {es : Array MapEntry} {x : Int} (h : Owns w0 w Ls) (hk : at2 Ls k j = some (r, .map es c)) (hf : Instr.findNow (.int .i64) (.int .i64 x) es.toList 0 = some none) : MapGet w r .i64 x .i64 0 false :=
  ⟨es, c, h.get (at2_mem hk), .inr ⟨hf, rfl, rfl⟩⟩

theorem nz_i {y : Int} {A : Prop} (h : y ≠ 0) (k : A) : NZ y A := by unfold NZ; rw [if_neg h]; exact k
theorem n0_i {y : Int} {A : Prop} (h : 0 ≤ y) (k : A) : N0 y A := by unfold N0; rw [if_neg (by omega)]; exact k
theorem Owns.cut (k n : Nat) (h : Owns w0 w Ls) : Owns w0 w (Ls.take k ++ Ls.drop (k + n)) := h.sub (by
  have e : Ls.flatten = (Ls.take k).flatten ++ (((Ls.drop k).take n).flatten ++ (Ls.drop (k + n)).flatten) := by
    rw [← List.flatten_append, ← List.flatten_append, ← List.drop_drop, List.take_append_drop, List.take_append_drop]
  rw [e, List.flatten_append]
  exact List.Sublist.append_left (List.sublist_append_right _ _) _)
theorem Owns.merge {a b : List Ent} (h : Owns w0 w (a :: b :: Ls)) : Owns w0 w ((a ++ b) :: Ls) := h.sub (by simp)
theorem Owns.skip {a b : List Ent} (h : Owns w0 w (a :: b :: Ls)) : Owns w0 w (a :: Ls) := h.sub (by simp)

theorem ap_i {K : Option Addr → Nat → Nat → World → Prop} (ht : P.underlying t = some (.slice e)) (hi : P.info? e = some i) (hz : i.zero = some z) (hzs : z.cells.size = i.size) (hO : Owns w0 w (r.ent e :: Ls)) (hr : r.ok i.size)
    {x : Option Addr} {m c : Nat} {news : List Value} (hl : news.length = m * i.size) (hx : x = none → m = 0) (hnews : ∀ a, x = some a → ∀ j u, news[j]? = some u → w.cell? (a.add j) = some u) (h1 : ∀ u ∈ news, u.oneCell' = true)
    (h63 : r.n + m ≤ maxLen) (hb : (r.n + m) * i.bytes ≤ 140737488355328)
    (hK : ∀ (r' : Rw) (w' : World), r'.ok i.size → r'.xs = r.xs ++ news → r'.n = r.n + m → Owns w0 w' (r'.ent e :: Ls) → (r.sp = [] → Old w w') → K r'.at_ r'.n r'.c w') : ApW P t t (.slice r.at_ r.n r.c) (.slice x m c) w K := by
  have hsmall : r.n + m ≤ 9223372036854775807 := by simp only [maxLen] at h63; omega
  -- nothing is appended
  have none0 : m = 0 → (∀ ty, (Builtin.append_ #[t, t] ty #[.slice r.at_ r.n r.c, .slice x m c]).run P w = .ok (.slice r.at_ r.n r.c) w) → ApW P t t (.slice r.at_ r.n r.c) (.slice x m c) w K := by
    intro hm h
    subst hm
    have hn : news = [] := List.eq_nil_of_length_eq_zero (by simpa using hl)
    exact ⟨_, _, _, _, h, hK r w hr (by simp [hn]) (by simp) hO fun _ => Old.refl w⟩
  -- what a new row holds
  have grown : ∀ (b cp : Nat) (w1 : World), r.n + m ≤ cp → cp ≤ maxLen → w1.heap = (w.alloc (.cells (r.xs.toArray ++ news.toArray ++ Builtin.zeroCells z.cells (cp - (r.n + m))) e)).heap → b = w.heap.size → (w1.os = w.os ∧ w1.output = w.output) →
      K (some ⟨b, 0, none⟩) (r.n + m) cp w1 := by
    intro b cp w1 hc hm hw hbq hq
    subst hbq
    let r' : Rw := ⟨some w.heap.size, r.n + m, cp, r.xs ++ news, (Builtin.zeroCells z.cells (cp - (r.n + m))).toList⟩
    have hsz : (Builtin.zeroCells z.cells (cp - (r.n + m))).toList.length = (cp - (r.n + m)) * i.size := by
      have := size_zeroCells z.cells (cp - (r.n + m))
      rw [hzs] at this
      simpa using this
    have h' := hO.alloc (.cells (r.xs.toArray ++ news.toArray ++ Builtin.zeroCells z.cells (cp - (r.n + m))) e)
    have hOw : ∀ {L}, Owns w0 (w.alloc (.cells (r.xs.toArray ++ news.toArray ++ Builtin.zeroCells z.cells (cp - (r.n + m))) e)) L → Owns w0 w1 L := fun h => by
      have e : ∀ {w'}, SameTo w' (w.alloc (.cells (r.xs.toArray ++ news.toArray ++ Builtin.zeroCells z.cells (cp - (r.n + m))) e)) → SameTo w' w1 := fun h => ⟨by rw [hw]; exact h.get, hq.1.trans h.os, hq.2.trans h.output⟩
      refine ⟨by rw [hw]; exact h.1, e h.2.1, ?_⟩
      rw [hw]; exact h.2.2
    refine hK r' w1 ⟨?_, ?_, hc, hm, fun h => by cases h⟩ rfl rfl (hOw (h'.sub ?_)) (fun _ => ?_)
    · simp only [r', List.length_append, hr.len, hl, Nat.add_mul]
    · simp only [r', List.length_append, hr.len, hl]
      rw [hsz, ← Nat.add_mul, ← Nat.add_mul]
      congr 1
      omega
    · have e1 : r'.ent e = [(w.heap.size, .cells (r.xs.toArray ++ news.toArray ++ Builtin.zeroCells z.cells (cp - (r.n + m))) e)] := by
        simp [Rw.ent, r', cl]
      rw [e1]
      simp only [List.flatten_cons, List.singleton_append]
      exact List.Sublist.cons_cons _ (List.sublist_append_right _ _)
    · have := (Old.refl w).alloc (.cells (r.xs.toArray ++ news.toArray ++ Builtin.zeroCells z.cells (cp - (r.n + m))) e)
      exact ⟨by rw [hw]; exact this.1, by rw [hw]; exact this.2.get, hq.1, hq.2⟩
  cases x with
  | none =>
    have hm := hx rfl
    subst hm
    refine none0 rfl fun ty => ?_
    have hle := hr.le
    cases hp : r.p with
    | none => simp [Builtin.append_, run_underlying ht, sizeOf, typeInfo, hi, Builtin.lenOf, Builtin.firstCells, Rw.at_, hp, hle]
    | some b => simp [Builtin.append_, run_underlying ht, sizeOf, typeInfo, hi, Builtin.lenOf, Builtin.firstCells, Rw.at_, hp, hle, storeCells]
  | some a =>
    have hnews := hnews a rfl
    cases hp : r.p with
    | none =>
      have hc0 := hr.nil hp
      have hn0 : r.n = 0 := by have := hr.le; omega
      have hxs : r.xs = [] := List.eq_nil_of_length_eq_zero (by rw [hr.len, hn0]; simp)
      have hat : r.at_ = none := by simp [Rw.at_, hp]
      by_cases hm : m = 0
      · subst hm
        refine none0 rfl fun ty => ?_
        rw [hat, hn0, hc0]
        simp [Builtin.append_, run_underlying ht, sizeOf, typeInfo, hi, Builtin.lenOf, Builtin.firstCells, loadCells, loadCellsFrom]
      · have hrun := fun ty => run_append_nil (P := P) w t ty e i z ht hi hz a m c news hl hnews (by omega) (by omega) (by rw [hn0] at hb; simp only [Nat.zero_add] at hb; omega)
        rw [hat, hn0, hc0]
        refine ⟨_, _, _, _, hrun, ?_⟩
        have := grown w.heap.size (grownCap w m 0 e) (w.drew.alloc (.cells (news.toArray ++ Builtin.zeroCells z.cells (grownCap w m 0 e - m)) e)) (by rw [hn0]; simpa using grownCap_ge w m 0 e) (grownCap_le_maxLen w m 0 e (by omega)) (by rw [hxs, hn0, Nat.zero_add, show ([] : List Value).toArray ++ news.toArray = news.toArray by simp]; rfl) rfl ⟨rfl, rfl⟩
        rw [hn0] at this
        simpa using this
    | some b =>
      have hat : r.at_ = some ⟨b, 0, none⟩ := by simp [Rw.at_, hp]
      have hent : r.ent e = [cl b e (r.xs ++ r.sp)] := by simp [Rw.ent, hp]
      have hB : Blk w b e (r.xs ++ r.sp) := hO.blk (by rw [hent]; simp)
      rw [hat]
      by_cases hroom : r.n + m ≤ r.c
      · have hfit : r.n * i.size + news.length ≤ (r.xs ++ r.sp).length := by rw [hl, List.length_append, hr.cap, ← Nat.add_mul]; exact Nat.mul_le_mul_right _ hroom
        have hrun := fun ty => run_append_room (P := P) w t ty e i ht hi b r.n r.c ⟨r.xs ++ r.sp⟩ hB a m c news hl hnews h1 hroom (by simpa using hfit)
        refine ⟨_, _, _, _, hrun, ?_⟩
        let r' : Rw := ⟨some b, r.n + m, r.c, r.xs ++ news, r.sp.drop news.length⟩
        have e1 : ((⟨r.xs ++ r.sp⟩ : Array Value).toList.take (r.n * i.size) ++ news ++ (⟨r.xs ++ r.sp⟩ : Array Value).toList.drop (r.n * i.size + news.length)) = r'.xs ++ r'.sp := by
          simp only [r', ← hr.len]
          rw [List.take_left' rfl, List.drop_append]
          simp
        have hheap : (w.setRow b (r'.xs ++ r'.sp).toArray).heap[b]? = some (.cells ⟨r'.xs ++ r'.sp⟩ e (0, 0)) := setRow_heap w b ⟨r.xs ++ r.sp⟩ _ e (0, 0) hB
        rw [e1]
        have hput := hO.put (k := 0) (j := 0) (o := .cells ⟨r.xs ++ r.sp⟩ e (0, 0)) (b := b) (w' := w.setRow b (r'.xs ++ r'.sp).toArray) (by rw [hent]; rfl) (by simp [World.setRow]) hheap (fun k hk => setRow_other w b k _ hk)
        have hlen2 : news.length ≤ r.sp.length := by
          have := hfit
          rw [← hr.len, List.length_append] at this
          omega
        refine hK r' _ ⟨?_, ?_, hroom, hr.max, fun h => by cases h⟩ rfl rfl ?_ (fun hs => ?_)
        · simp only [r', List.length_append, hr.len, hl, Nat.add_mul]
        · have := hr.cap
          simp only [r', List.length_append, List.length_drop]
          omega
        · rw [hent] at hput
          exact hput
        · have hn : news = [] := List.eq_nil_of_length_eq_zero (by rw [hs] at hlen2; simpa using hlen2)
          have hs2 : r'.xs ++ r'.sp = r.xs ++ r.sp := by simp [r', hn]
          rw [hs2] at hheap ⊢
          refine ⟨by simp [World.setRow], fun k hk => ?_, rfl, rfl⟩
          by_cases hkb : k = b
          · subst hkb; rw [hheap]; exact hB.symm
          · exact setRow_other w b k _ hkb
      · have hold : ∀ j v, r.xs[j]? = some v → w.cell? ((⟨b, 0, none⟩ : Addr).add j) = some v := fun j v hv => by
          rw [add_mk, hB.cell, Nat.zero_add]
          obtain ⟨hlt, _⟩ := List.getElem?_eq_some_iff.1 hv
          rw [List.getElem?_append_left hlt]
          exact hv
        have hrun := fun ty => run_append_grow (P := P) w t ty e i z ht hi hz ⟨b, 0, none⟩ r.n r.c r.xs hr.len hold a m c news hl hnews (by omega) (by omega) (growslice_fits (by omega) hb)
        refine ⟨_, _, _, _, hrun, ?_⟩
        exact grown w.heap.size (grownCap w (r.n + m) r.c e) _ (grownCap_ge w (r.n + m) r.c e) (grownCap_le_maxLen w (r.n + m) r.c e h63) rfl rfl ⟨rfl, rfl⟩
end
end Go.V

/- The order of segments does not matter. -/
namespace Go.V
noncomputable def cnt1 (z : Ent) (l : List Ent) : Nat := l.countP (fun x => @decide (x = z) (Classical.propDecidable _))
noncomputable def cnt2 (z : Ent) (L : List (List Ent)) : Nat := cnt1 z L.flatten
theorem cnt1_app (z : Ent) (a b : List Ent) : cnt1 z (a ++ b) = cnt1 z a + cnt1 z b := by unfold cnt1; exact List.countP_append
theorem cnt1_cons (z x : Ent) (b : List Ent) : cnt1 z (x :: b) = cnt1 z [x] + cnt1 z b := cnt1_app z [x] b
theorem cnt1_nil (z : Ent) : cnt1 z [] = 0 := rfl
theorem cnt2_cons (z : Ent) (a : List Ent) (b : List (List Ent)) : cnt2 z (a :: b) = cnt1 z a + cnt2 z b := by unfold cnt2; rw [List.flatten_cons, cnt1_app]
theorem cnt2_app (z : Ent) (a b : List (List Ent)) : cnt2 z (a ++ b) = cnt2 z a + cnt2 z b := by unfold cnt2; rw [List.flatten_append, cnt1_app]
theorem cnt2_nil (z : Ent) : cnt2 z [] = 0 := rfl
theorem perm_of_cnt {a b : List (List Ent)} (h : ∀ z, cnt2 z a = cnt2 z b) : a.flatten.Perm b.flatten := by
  letI : DecidableEq Ent := fun a b => Classical.propDecidable _
  refine List.perm_iff_count.2 fun z => ?_
  have e : ∀ l : List Ent, l.count z = cnt1 z l := fun l => by
    unfold cnt1
    rw [List.count_eq_countP]
    congr 1
  rw [e, e]
  exact h z
theorem Owns.re {w0 w : World} {Ls Ls' : List (List Ent)} (h : Owns w0 w Ls) (e : ∀ z, cnt2 z Ls = cnt2 z Ls') : Owns w0 w Ls' := h.perm (perm_of_cnt fun z => (e z).symm)

/-! ### many cells -/
section
variable {w0 w : World} {Ls : List (List Ent)} {k j b : Nat} {T : TypeId} {a : Addr}
theorem set2_set2 : ∀ {Ls : List (List Ent)} {k j : Nat} {x y : Ent}, set2 (set2 Ls k j x) k j y = set2 Ls k j y
  | [], _, _, _, _ => rfl
  | s :: r, 0, j, x, y => by simp [set2]
  | s :: r, k + 1, j, x, y => by simp [set2, set2_set2]
theorem at2_set2 : ∀ {Ls : List (List Ent)} {k j : Nat} {x y : Ent}, at2 Ls k j = some y → at2 (set2 Ls k j x) k j = some x
  | [], _, _, _, _, h => by cases h
  | s :: r, 0, j, x, y, h => by
    have : j < s.length := (List.getElem?_eq_some_iff.1 h).1
    simp [set2, at2, this]
  | s :: r, k + 1, j, x, y, h => at2_set2 (Ls := r) h
theorem set2_same : ∀ {Ls : List (List Ent)} {k j : Nat} {x : Ent}, at2 Ls k j = some x → set2 Ls k j x = Ls
  | [], _, _, _, h => rfl
  | s :: r, 0, j, x, h => by
    obtain ⟨h1, h2⟩ := List.getElem?_eq_some_iff.1 h
    simp only [set2]
    rw [← h2, List.set_getElem_self]
  | s :: r, k + 1, j, x, h => by simp only [set2]; rw [set2_same (Ls := r) h]
theorem sts_from {K : World → Prop} {o : Nat} : ∀ {vs : List Value} {i : Nat} {w : World} {cs : List Value}, Owns w0 w Ls → at2 Ls k j = some (cl b T cs) → o + i + vs.length ≤ cs.length → (∀ v ∈ vs, One v True) →
    (∀ w', Owns w0 w' (set2 Ls k j (cl b T (cs.take (o + i) ++ vs ++ cs.drop (o + i + vs.length)))) → K w') → Sts ⟨b, o, none⟩ i vs w K := by
  intro vs
  induction vs generalizing Ls with
  | nil =>
    intro i w cs h hk hl hv hK
    refine hK w ?_
    simp only [List.append_nil, List.length_nil, Nat.add_zero, List.take_append_drop]
    rw [set2_same hk]; exact h
  | cons v r ih =>
    intro i w cs h hk hl hv hK
    simp only [List.length_cons] at hl
    refine st_i h hk (add_mk _ _ _) (Nat.ble_eq_true_of_le (by omega)) (hv v (by simp)) fun w' h' => ?_
    refine ih (i := i + 1) h' (at2_set2 hk) (by simp; omega) (fun u hu => hv u (by simp [hu])) fun w'' h'' => hK w'' ?_
    rw [set2_set2] at h''
    have e : (cs.set (o + i) v).take (o + (i + 1)) ++ r ++ (cs.set (o + i) v).drop (o + (i + 1) + r.length) = cs.take (o + i) ++ (v :: r) ++ cs.drop (o + i + (v :: r).length) := by
      rw [show o + (i + 1) = o + i + 1 by omega, List.take_succ_eq_append_getElem (by simp; omega), List.getElem_set_self, List.take_set_of_le (by omega), List.drop_set_of_lt (by omega), show o + i + 1 + r.length = o + i + (v :: r).length by simp; omega]
      simp
    rw [e] at h''
    exact h''
theorem sts_i {K : World → Prop} {vs cs : List Value} (h : Owns w0 w Ls) (hk : at2 Ls k j = some (cl b T cs)) (ha : a = ⟨b, 0, none⟩) (hl : vs.length = cs.length) (hv : ∀ v ∈ vs, One v True) (hK : ∀ w', Owns w0 w' (set2 Ls k j (cl b T vs)) → K w') : Sts a 0 vs w K := by
  subst ha
  refine sts_from h hk (by omega) hv fun w' h' => hK w' ?_
  simpa [hl] using h'
theorem lenIs_i {n : Nat} {l : List Value} {K : Prop} (h : n = l.length) (k : K) : LenIs n l K := by
  unfold LenIs
  subst h
  simpa using k
theorem ca_len {cs : List Value} (h : Owns w0 w Ls) (hk : at2 Ls k j = some (cl b T cs)) (ha : a = ⟨b, 0, none⟩) {n : Nat} (hn : cs.length = n) {K : List Value → Prop} (hK : K cs) : ∃ vs, CellsAt w a 0 vs ∧ (vs.length = n ∧ K vs) := ⟨cs, ca_i h hk ha, hn, hK⟩
theorem one_ints {l : List Int} {q : IntKind} : ∀ v ∈ l.map (Value.int q), One v True := by
  intro v hv
  obtain ⟨x, _, rfl⟩ := List.mem_map.1 hv
  trivial
theorem Owns.join {w1 : World} {Ls' : List (List Ent)} (h : Owns w0 w Ls) (h' : Owns w w1 Ls') : Owns w0 w1 (Ls' ++ Ls) := by
  refine ⟨Nat.le_trans h.1 h'.1, ⟨fun b hb => ?_, h'.2.1.os.trans h.2.1.os, h'.2.1.output.trans h.2.1.output⟩, fun x hx => ?_, ?_⟩
  · rw [h'.2.1 b (Nat.lt_of_lt_of_le hb h.1)]; exact h.2.1 b hb
  · rw [List.flatten_append, List.mem_append] at hx
    rcases hx with hx | hx
    · exact ⟨Nat.le_trans h.1 (h'.2.2.1 x hx).1, (h'.2.2.1 x hx).2⟩
    · refine ⟨(h.2.2.1 x hx).1, ?_⟩
      rw [h'.2.1 x.1 (h.lt hx)]; exact (h.2.2.1 x hx).2
  · rw [List.flatten_append, List.map_append, List.nodup_append]
    refine ⟨h'.2.2.2, h.2.2.2, ?_⟩
    intro a ha b hb hab
    obtain ⟨x, hx, rfl⟩ := List.mem_map.1 ha
    obtain ⟨y, hy, rfl⟩ := List.mem_map.1 hb
    have h1 := (h'.2.2.1 x hx).1
    have h2 := h.lt hy
    omega
/-- What a run leaves as it was, in whatever memory, stays with all else. -/
theorem owns_all {w : World} {E : List Ent} (hE : Has w E) (hn : (E.map (·.1)).Nodup) : ∃ (w00 : World) (R : List Ent), Owns w00 w (E :: [R]) ∧ ∀ w' E', (∀ x ∈ E, x ∈ E') → Owns w00 w' (E' :: [R]) → Old w w' := by
  classical
  let R : List Ent := (List.range w.heap.size).filterMap fun b => if b ∈ E.map (·.1) then none else (w.heap[b]?).map fun o => (b, o)
  have hR : ∀ x, x ∈ R ↔ x.1 ∉ E.map (·.1) ∧ w.heap[x.1]? = some x.2 := by
    intro x
    simp only [R, List.mem_filterMap, List.mem_range]
    constructor
    · rintro ⟨b, hb, h⟩
      by_cases hm : b ∈ E.map (·.1)
      · rw [if_pos hm] at h; cases h
      · rw [if_neg hm] at h
        obtain ⟨o, ho, rfl⟩ := Option.map_eq_some_iff.1 h
        exact ⟨hm, ho⟩
    · rintro ⟨h1, h2⟩
      exact ⟨x.1, (Array.getElem?_eq_some_iff.1 h2).1, by rw [if_neg h1, h2]; rfl⟩
  refine ⟨{ w with heap := #[] }, R, ⟨Nat.zero_le _, ⟨fun b hb => absurd hb (Nat.not_lt_zero _), rfl, rfl⟩, fun x hx => ⟨Nat.zero_le _, ?_⟩, ?_⟩, ?_⟩
  · rw [List.flatten_cons, List.mem_append] at hx
    rcases hx with hx | hx
    · exact hE x hx
    · exact ((hR x).1 (by simpa using hx)).2
  · simp only [List.flatten_cons, List.flatten_nil, List.append_nil, List.map_append]
    rw [List.nodup_append]
    refine ⟨hn, ?_, ?_⟩
    · have e : R.map (·.1) = (List.range w.heap.size).filter fun b => !decide (b ∈ E.map (·.1)) := by
        simp only [R]
        have : ∀ l : List Nat, (∀ b ∈ l, b < w.heap.size) → (l.filterMap fun b => if b ∈ E.map (·.1) then none else (w.heap[b]?).map fun o => (b, o)).map (·.1) = l.filter fun b => !decide (b ∈ E.map (·.1)) := by
          intro l
          induction l with
          | nil => intro _; rfl
          | cons b r ih =>
            intro h
            have hb := h b (by simp)
            have ih := ih fun x hx => h x (by simp [hx])
            rw [List.filterMap_cons, List.filter_cons]
            by_cases hm : b ∈ E.map (·.1)
            · rw [if_pos hm]
              simp only [hm, decide_true, Bool.not_true, Bool.false_eq_true, if_false]
              exact ih
            · rw [if_neg hm]
              have he : w.heap[b]? = some w.heap[b] := Array.getElem?_eq_getElem hb
              rw [he]
              simp only [Option.map_some, hm, decide_false, Bool.not_false, if_true, List.map_cons]
              rw [ih]
        exact this _ fun b hb => List.mem_range.1 hb
      rw [e]
      exact List.nodup_range.sublist List.filter_sublist
    · intro a ha b hb hab
      subst hab
      obtain ⟨x, hx, rfl⟩ := List.mem_map.1 hb
      exact ((hR x).1 hx).1 ha
  · intro w' E' hEE h
    have key : ∀ b, b < w.heap.size → w'.heap[b]? = w.heap[b]? := by
      intro b hb
      have he : w.heap[b]? = some w.heap[b] := Array.getElem?_eq_getElem hb
      by_cases hm : b ∈ E.map (·.1)
      · obtain ⟨x, hx, rfl⟩ := List.mem_map.1 hm
        rw [hE x hx]
        exact h.get (by simp [hEE x hx])
      · rw [he]
        exact h.get (x := (b, w.heap[b])) (by
          have := (hR (b, w.heap[b])).2 ⟨hm, he⟩
          simp [this])
    refine ⟨?_, key, h.2.1.os, h.2.1.output⟩
    rcases Nat.lt_or_ge w'.heap.size w.heap.size with hlt | hge
    · have := key w'.heap.size hlt
      rw [Array.getElem?_eq_none (Nat.le_refl _), Array.getElem?_eq_getElem hlt] at this
      cases this
    · exact hge
theorem Owns.nodup (k : Nat) {E : List Ent} (h : Owns w0 w Ls) (hk : Ls[k]? = some E) : (E.map (·.1)).Nodup := by
  have h1 : E ∈ Ls := List.mem_of_getElem? hk
  have h2 := h.2.2.2
  have : E.Sublist Ls.flatten := List.sublist_flatten_of_mem h1
  exact List.Nodup.sublist (this.map _) h2
end
end Go.V

/- Rows of whole numbers, compared. -/
namespace Go.V
def cellsI (xs : List Int) : List Value := xs.map (.int .i64)
def isAggB (P : Program) (t : TypeId) : Bool := match P.underlying t with
  | some (.struct _) => true
  | some (.array _ _) => true
  | _ => false
def valOf (P : Program) (t : TypeId) (xs : List Int) : Value := cond (isAggB P t) (.agg ⟨cellsI xs⟩) (.int .i64 ((xs[0]?).getD 0))
def tileB (P : Program) (F : TypeId → Bool) : List Field → Nat → Nat → Bool
  | [], off, tot => Nat.beq off tot
  | f :: fs, off, tot => (f.name != "_") && Nat.beq f.offset off && F f.type && Nat.ble (off + P.cellsOf f.type) tot && tileB P F fs (off + P.cellsOf f.type) tot
def flatT (P : Program) : Nat → TypeId → Bool
  | 0, _ => false
  | d + 1, t => (P.info? t).isSome && match P.underlying t with
    | some (.int k) => (match k with | .i64 => Nat.beq (P.cellsOf t) 1 | _ => false)
    | some (.struct fs) => !P.stoodInHeld t && tileB P (flatT P d) fs.toList 0 (P.cellsOf t)
    | some (.array n e) => flatT P d e && Nat.beq (P.cellsOf t) (n * P.cellsOf e)
    | _ => false

section
variable {P : Program}
theorem flatT_und {d : Nat} {t : TypeId} (h : flatT P d t = true) : (∃ u, P.underlying t = some u) ∧ (∃ i, P.info? t = some i) := by
  cases d with
  | zero => cases h
  | succ d =>
    unfold flatT at h
    simp only [Bool.and_eq_true] at h
    refine ⟨?_, Option.isSome_iff_exists.1 h.1⟩
    cases hu : P.underlying t with
    | none => rw [hu] at h; exact absurd h.2 (by simp)
    | some u => exact ⟨u, rfl⟩
theorem flatT_one {d : Nat} {t : TypeId} (h : flatT P d t = true) (ha : isAggB P t = false) : P.underlying t = some (.int .i64) ∧ P.cellsOf t = 1 := by
  cases d with
  | zero => cases h
  | succ d =>
    unfold flatT at h
    simp only [Bool.and_eq_true] at h
    have h := h.2
    unfold isAggB at ha
    split at h
    · rename_i hu
      split at h
      · exact ⟨hu, Nat.eq_of_beq_eq_true h⟩
      · cases h
    · rename_i hu; rw [hu] at ha; cases ha
    · rename_i hu; rw [hu] at ha; cases ha
    · cases h
theorem run_isAgg {t : TypeId} {u : TypeDesc} (hu : P.underlying t = some u) (w : World) : (isAgg t).run P w = .ok (isAggB P t) w := by
  unfold isAgg isAggB
  simp only [Sem.run_bind, run_underlying hu, Result.andThen_ok, hu]
  cases u <;> simp
theorem run_part_flat {d : Nat} {t : TypeId} (h : flatT P d t = true) {xs : List Int} {off : Nat} (hl : off + P.cellsOf t ≤ xs.length) (w : World) : (part t ⟨cellsI xs⟩ off).run P w = .ok (valOf P t ((xs.drop off).take (P.cellsOf t))) w := by
  obtain ⟨⟨u, hu⟩, i, hi⟩ := flatT_und h
  unfold part valOf
  simp only [Sem.run_bind, run_isAgg hu, Result.andThen_ok]
  cases ha : isAggB P t with
  | true =>
    simp only [if_true, Sem.run_bind, run_sizeOf w hi, Result.andThen_ok, Sem.run_pure, cond_true]
    congr 2
    apply Array.ext'
    simp [cellsI, List.map_take, List.map_drop, Array.toList_extract, List.extract_eq_take_drop]
  | false =>
    obtain ⟨_, h1⟩ := flatT_one h ha
    simp only [Bool.false_eq_true, if_false, cond_false, h1]
    rw [h1] at hl
    have : (⟨cellsI xs⟩ : Array Value)[off]? = some (.int .i64 (xs[off]'(by omega))) := by
      simp only [List.getElem?_toArray, cellsI, List.getElem?_map, List.getElem?_eq_getElem (show off < xs.length by omega)]
      rfl
    rw [this]
    simp only [Sem.run_pure]
    have e : ((xs.drop off).take 1)[0]? = some (xs[off]'(by omega)) := by
      rw [List.getElem?_take, if_pos (by omega), List.getElem?_drop, Nat.add_zero, List.getElem?_eq_getElem (show off < xs.length by omega)]
    rw [e]
    rfl
theorem split_eq {xs ys : List Int} (n : Nat) : (xs = ys) ↔ (xs.take n = ys.take n ∧ xs.drop n = ys.drop n) := by
  constructor
  · rintro rfl; exact ⟨rfl, rfl⟩
  · rintro ⟨h1, h2⟩
    rw [← List.take_append_drop n xs, ← List.take_append_drop n ys, h1, h2]
theorem eqFields_flat {d D : Nat} (ih : ∀ t, flatT P d t = true → ∀ (xs ys : List Int), xs.length = P.cellsOf t → ys.length = P.cellsOf t → ∀ w, (Op.equalIn (D + d) t (valOf P t xs) (valOf P t ys)).run P w = .ok (decide (xs = ys)) w) {xs ys : List Int} {tot : Nat} (hx : xs.length = tot) (hy : ys.length = tot) (w : World) :
    ∀ {fs : List Field} {off : Nat}, off ≤ tot → tileB P (flatT P d) fs off tot = true → (Op.eqFields (D + d) ⟨cellsI xs⟩ ⟨cellsI ys⟩ fs).run P w = .ok (decide (xs.drop off = ys.drop off)) w
  | [], off, ho, h => by
    have := Nat.eq_of_beq_eq_true h
    subst this
    simp only [Op.eqFields, Sem.run_pure]
    rw [List.drop_of_length_le (by omega), List.drop_of_length_le (by omega)]
    simp
  | f :: fs, off, ho, h => by
    unfold tileB at h
    simp only [Bool.and_eq_true] at h
    obtain ⟨⟨⟨⟨h1, h2⟩, h3⟩, h4⟩, h5⟩ := h
    have h2 := Nat.eq_of_beq_eq_true h2
    have h4 := Nat.le_of_ble_eq_true h4
    have r := eqFields_flat ih hx hy w h4 h5
    simp only [Op.eqFields]
    rw [if_pos (by simpa using h1), h2]
    simp only [Sem.run_bind, run_part_flat h3 (show off + P.cellsOf f.type ≤ xs.length by omega), run_part_flat h3 (show off + P.cellsOf f.type ≤ ys.length by omega), Result.andThen_ok]
    rw [ih f.type h3 _ _ (by simp; omega) (by simp; omega)]
    simp only [Result.andThen_ok]
    have e : (xs.drop off = ys.drop off) ↔ ((xs.drop off).take (P.cellsOf f.type) = (ys.drop off).take (P.cellsOf f.type) ∧ xs.drop (off + P.cellsOf f.type) = ys.drop (off + P.cellsOf f.type)) := by
      rw [split_eq (P.cellsOf f.type) (xs := xs.drop off), List.drop_drop, List.drop_drop]
    by_cases hq : (xs.drop off).take (P.cellsOf f.type) = (ys.drop off).take (P.cellsOf f.type)
    · rw [decide_eq_true hq, if_neg (by simp), r]
      simp only [e, hq, true_and]
    · rw [decide_eq_false hq, if_pos (by simp), Sem.run_pure]
      simp only [e, hq, false_and, decide_false]
theorem eqItems_flat {d D : Nat} {t : TypeId} (ht : flatT P d t = true) (ih : ∀ (xs ys : List Int), xs.length = P.cellsOf t → ys.length = P.cellsOf t → ∀ w, (Op.equalIn (D + d) t (valOf P t xs) (valOf P t ys)).run P w = .ok (decide (xs = ys)) w) {xs ys : List Int} (w : World) :
    ∀ {m i : Nat}, xs.length = (i + m) * P.cellsOf t → ys.length = (i + m) * P.cellsOf t → (Op.eqItems (D + d) t (P.cellsOf t) ⟨cellsI xs⟩ ⟨cellsI ys⟩ (List.range' i m)).run P w = .ok (decide (xs.drop (i * P.cellsOf t) = ys.drop (i * P.cellsOf t))) w
  | 0, i, hx, hy => by
    simp only [List.range'_zero, Op.eqItems, Sem.run_pure]
    rw [List.drop_of_length_le (by rw [hx]; simp), List.drop_of_length_le (by rw [hy]; simp)]
    simp
  | m + 1, i, hx, hy => by
    have e0 : (i + (m + 1)) * P.cellsOf t = i * P.cellsOf t + P.cellsOf t + m * P.cellsOf t := by rw [Nat.add_mul, Nat.add_mul]; omega
    have r := eqItems_flat ht ih (xs := xs) (ys := ys) w (m := m) (i := i + 1) (by rw [hx]; congr 1; omega) (by rw [hy]; congr 1; omega)
    simp only [List.range'_succ, Op.eqItems, Sem.run_bind, run_part_flat ht (show i * P.cellsOf t + P.cellsOf t ≤ xs.length by omega), run_part_flat ht (show i * P.cellsOf t + P.cellsOf t ≤ ys.length by omega), Result.andThen_ok]
    rw [ih _ _ (by simp; omega) (by simp; omega)]
    simp only [Result.andThen_ok]
    have e : (xs.drop (i * P.cellsOf t) = ys.drop (i * P.cellsOf t)) ↔ ((xs.drop (i * P.cellsOf t)).take (P.cellsOf t) = (ys.drop (i * P.cellsOf t)).take (P.cellsOf t) ∧ xs.drop ((i + 1) * P.cellsOf t) = ys.drop ((i + 1) * P.cellsOf t)) := by
      rw [split_eq (P.cellsOf t) (xs := xs.drop (i * P.cellsOf t)), List.drop_drop, List.drop_drop, Nat.add_mul i 1, Nat.one_mul]
    by_cases hq : (xs.drop (i * P.cellsOf t)).take (P.cellsOf t) = (ys.drop (i * P.cellsOf t)).take (P.cellsOf t)
    · rw [decide_eq_true hq, if_neg (by simp), r]
      simp only [e, hq, true_and]
    · rw [decide_eq_false hq, if_pos (by simp), Sem.run_pure]
      simp only [e, hq, false_and, decide_false]
theorem equalIn_flat : ∀ (d D : Nat) (t : TypeId), flatT P d t = true → ∀ (xs ys : List Int), xs.length = P.cellsOf t → ys.length = P.cellsOf t → ∀ w, (Op.equalIn (D + d) t (valOf P t xs) (valOf P t ys)).run P w = .ok (decide (xs = ys)) w
  | 0, _, _, h => by cases h
  | d + 1, D, t, h => by
    intro xs ys hx hy w
    have h0 := h
    unfold flatT at h
    simp only [Bool.and_eq_true] at h
    have h := h.2
    unfold valOf
    have ha : isAggB P t = match P.underlying t with
      | some (.struct _) => true
      | some (.array _ _) => true
      | _ => false := rfl
    split at h
    · rename_i k hu
      rw [hu] at ha
      rw [ha]
      split at h
      · have h1 := Nat.eq_of_beq_eq_true h
        rw [h1] at hx hy
        obtain ⟨x, rfl⟩ : ∃ x, xs = [x] := List.length_eq_one_iff.1 hx
        obtain ⟨y, rfl⟩ : ∃ x, ys = [x] := List.length_eq_one_iff.1 hy
        simp only [cond_false]
        rw [← Nat.add_assoc, run_equalIn_int w (D + d) t .i64 .i64 _ _ hu]
        simp [Bool.beq_eq_decide_eq]
      · cases h
    · rename_i fs hu
      rw [hu] at ha
      rw [ha]
      simp only [Bool.and_eq_true, Bool.not_eq_true'] at h
      have hf : P.underlying t = some (.struct (P.fieldsOf t)) := by
        unfold Program.fieldsOf
        rw [hu]
      simp only [cond_true]
      rw [← Nat.add_assoc, run_equalIn_struct w (D + d) t _ _ hf h.1]
      have hfs : (P.fieldsOf t).toList = fs.toList := by
        rw [hu] at hf
        injection hf with hf
        injection hf with hf
        rw [← hf]
      rw [hfs, eqFields_flat (fun t ht => equalIn_flat d D t ht) hx hy w (Nat.zero_le _) h.2]
      simp
    · rename_i n e hu
      rw [hu] at ha
      rw [ha]
      simp only [Bool.and_eq_true] at h
      obtain ⟨_, i, hi⟩ := flatT_und h.1
      simp only [cond_true]
      have h2 := Nat.eq_of_beq_eq_true h.2
      rw [← Nat.add_assoc, run_equalIn_array w (D + d) _ _ hu hi, List.range_eq_range', eqItems_flat h.1 (equalIn_flat d D e h.1) w (by rw [hx, h2, Nat.zero_add]) (by rw [hy, h2, Nat.zero_add])]
      simp
    · cases h
theorem eqw_flat {t : TypeId} {xs ys : List Int} {K : Bool → Prop} (ht : flatT P 8 t = true) (ha : isAggB P t = true) (hg : P.eqGuardType P.depth t = false) (hx : xs.length = P.cellsOf t) (hy : ys.length = P.cellsOf t) (hK : K (decide (xs = ys))) : EqW P t (.agg ⟨cellsI xs⟩) (.agg ⟨cellsI ys⟩) K := by
  refine ⟨_, fun op ox oy w' => run_eqGuard_agg w' op t ox oy _ _ hg, fun w' => ?_, hK⟩
  have := equalIn_flat (P := P) 8 9992 t ht xs ys hx hy w'
  unfold valOf at this
  rw [ha] at this
  exact this
end
end Go.V

/- The row of a law, out of its contract. -/
namespace Go.V
open Go.ChangeShapes Go.WideShapes Go.ChangeAt Go.RowKit
section
variable {P : Program} {H : Type} {enc : TypeId × Value → H}
def readAll (P : Program) (ts : List TypeId) : Bool := ts.all fun t => P.readableRec t && Nat.blt t P.types.size
theorem trodAll_old (hl : laidOutB P = true) {W W' : World} (ho : Old W W') : ∀ {ts : List TypeId} {vs : List Value} {ds : List (DataW H)} {ps : List MemPlace}, readAll P ts = true → DataW.TrodAll enc P W 0 (fun _ => true) true ts vs ds ps → (∀ p ∈ ps, p.block < W.heap.size) → ∀ sp : Nat → Bool, (∀ p ∈ ps, sp p.block = true) → DataW.TrodAll enc P W' 0 sp true ts vs ds ps
  | [], [], [], ps, _, h, _, _, _ => h
  | t :: ts, v :: vs, d :: ds, ps, hr, ⟨p, q, h1, h2, e⟩, hlt, sp, hs => by
    subst e
    unfold readAll at hr
    simp only [List.all_cons, Bool.and_eq_true] at hr
    refine ⟨p, q, WideElems.Trod_stays hl hr.1.1 (Nat.le_of_ble_eq_true hr.1.2) h1 (fun x hx => ?_) (fun x hx => hs x (by simp [hx])), trodAll_old hl ho hr.2 h2 (fun x hx => hlt x (by simp [hx])) sp (fun x hx => hs x (by simp [hx])), rfl⟩
    have hb := hlt x (by simp [hx])
    cases x with
    | cell b off =>
      show W'.cell? _ = W.cell? _
      unfold World.cell?
      rw [ho.2 b hb]
    | map b => exact ho.2 b hb
  | [], _ :: _, _, _, _, h, _, _, _ => h.elim
  | [], [], _ :: _, _, _, h, _, _, _ => h.elim
  | _ :: _, [], _, _, _, h, _, _, _ => h.elim
  | _ :: _, _ :: _, [], _, _, h, _, _, _ => h.elim
theorem frozen_old {W W' : World} (ho : Old W W') {b off : Nat} (hb : b < W.heap.size) : W'.frozen? ⟨b, off, none⟩ = W.frozen? ⟨b, off, none⟩ := by
  unfold World.frozen?
  rw [ho.2 b hb]
theorem keptBut_old {W W' : World} (ho : Old W W') (S : MemPlace → Prop) : W.keptBut W' S := by
  refine ⟨ho.2.os, ho.2.output, fun i hi => ?_⟩
  rw [ho.2 i hi]
  cases h : W.heap[i]? with
  | none => simp
  | some o => cases o <;> simp
/-- A law: it answers true, and all that was there stands as it did. -/
theorem post_true {f : Func} {s : ChangeSpec} {apart fresh handsOn again : Bool} {W W' : World} {args : Array Value} {ds gs : List (DataW H)} {before : List MemPlace} {tb : TypeId} (hl : laidOutB P = true) (hr : readAll P f.params.toList = true)
    (hb : P.underlying tb = some .bool) (ht : f.resultTypes = #[tb]) (hv : s.vars = []) (hres : (s.fn H (ds ++ gs)).results = [.lit (.bool true)]) (hargs : (s.fn H (ds ++ gs)).args = ds) (hvars : (s.fn H (ds ++ gs)).vars = [])
    (hW : DataW.Whole enc P f.params.toList s.vars apart W args.toList ds gs before) (ho : Old W W') : s.post enc P f apart fresh handsOn again W args (.bool true) W' := by
  have hlt : ∀ p ∈ before, p.block < W.heap.size := fun p hp => by simpa using hW.lt p hp
  have hW0 := hW
  obtain ⟨p, q, hA, hV, rfl, hz, hn⟩ := hW
  rw [hv] at hV
  obtain ⟨rfl, rfl⟩ := trodVars_none hV
  simp only [List.append_nil] at hlt hz hn hres hargs
  rw [List.append_nil] at hvars
  have res : ∀ (b : Nat) (sp : Nat → Bool) (hd : Bool), DataW.TrodAll enc P W' b sp hd f.resultTypes.toList ((Value.bool true).resultList f.resultTypes.size) [.lit (.bool true)] [] := by
    intro b sp hd
    rw [ht]
    exact trodAll_mk1 (shut_bool hb true)
  have ha : ∀ sp : Nat → Bool, (∀ x ∈ p, sp x.block = true) → DataW.TrodAll enc P W' 0 sp true f.params.toList args.toList ds p := fun sp hs => trodAll_old hl ho hr hA hlt sp hs
  refine ⟨ds, [], p ++ [], [], p, [], hW0, ?_, ?_, ?_, keptBut_old ho _, fun _ => ⟨?_, .lit (.bool true) :: ds, [], ([] ++ p) ++ [], ⟨[] ++ p, [], ?_, ?_, rfl, ?_, ?_⟩, ?_⟩⟩
  · simp only [List.append_nil, hres]; exact res _ _ _
  · simp only [List.append_nil, hargs]; exact ha _ fun x hx => by simpa using hlt x hx
  · rw [hv]
    have : (s.fn H (ds ++ [])).vars = [] := by rw [List.append_nil]; exact hvars
    rw [this]; rfl
  · exact ok_one ht rfl (okWide_bool_mk hb true)
  · exact trodAll_append (ha _ fun _ _ => rfl) (res _ _ _)
  · rw [hv]; rfl
  · intro b off hp
    have hp : MemPlace.cell b off ∈ p := by simpa using hp
    have hb := hlt _ hp
    rw [frozen_old ho (show b < W.heap.size from hb)]
    exact hz b off hp
  · intro h
    simpa using hn h
  · intro x hx _
    simpa using hx
end
end Go.V
