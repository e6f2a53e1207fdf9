/- An evaluator over the given code, and its soundness. -/
import Derived.Calls
import Derived.Orders
import Derived.Below
import Derived.Laws.Cells
import Derived.Laws.Tables
import Derived.MapKept
import Derived.Laws.IdiomStrings
import Derived.Laws.MakeOwn
import Derived.Laws.BytesString
import Derived.Laws.Append
/- An evaluator over the given code with an abstract memory: its definitions. Sound against the model: the texts behind this one. -/
set_option linter.unusedSimpArgs false
set_option linter.unusedVariables false
namespace Go.E

/-! ### A trie by the binary digits of a number -/
inductive PT (α : Type) where
  | nil
  | node (l : PT α) (v : Option α) (r : PT α)

/-- By the recursors themselves: the kernel is quick with them. -/
noncomputable def PT.get {α : Type} (t : PT α) : Nat → Option α :=
  @PT.rec α (fun _ => Nat → Option α) (fun _ => none)
    (fun _ v _ gl gr n => @Nat.rec (fun _ => Option α) v (fun k _ => @Bool.rec (fun _ => Option α) (gr (k / 2)) (gl (k / 2)) (Nat.beq (k % 2) 0)) n) t

theorem PT.get_nil' {α : Type} (n : Nat) : (PT.nil : PT α).get n = none := rfl
theorem PT.get_zero {α : Type} (l r : PT α) (v : Option α) : (PT.node l v r).get 0 = v := rfl
theorem PT.get_succ {α : Type} (l r : PT α) (v : Option α) (k : Nat) : (PT.node l v r).get (k + 1) = cond (Nat.beq (k % 2) 0) (l.get (k / 2)) (r.get (k / 2)) := by
  show @Bool.rec _ _ _ (Nat.beq (k % 2) 0) = _
  cases Nat.beq (k % 2) 0 <;> rfl

/-- A way of one leaf. -/
noncomputable def PT.sing {α : Type} (x : Option α) (f : Nat) : Nat → PT α :=
  @Nat.rec (fun _ => Nat → PT α) (fun _ => .nil)
    (fun _ ih n => @Nat.rec (fun _ => PT α) (.node .nil x .nil) (fun k _ => @Bool.rec (fun _ => PT α) (.node .nil none (ih (k / 2))) (.node (ih (k / 2)) none .nil) (Nat.beq (k % 2) 0)) n) f

noncomputable def PT.upd {α : Type} (t : PT α) (n : Nat) (x : Option α) : PT α :=
  @PT.rec α (fun _ => Nat → PT α) (fun n => PT.sing x (n + 1) n)
    (fun l v r ul ur n => @Nat.rec (fun _ => PT α) (.node l x r) (fun k _ => @Bool.rec (fun _ => PT α) (.node l v (ur (k / 2))) (.node (ul (k / 2)) v r) (Nat.beq (k % 2) 0)) n) t n

theorem PT.upd_nil {α : Type} (n : Nat) (x : Option α) : (PT.nil : PT α).upd n x = PT.sing x (n + 1) n := rfl
theorem PT.upd_zero {α : Type} (l r : PT α) (v x : Option α) : (PT.node l v r).upd 0 x = .node l x r := rfl
theorem PT.upd_succ {α : Type} (l r : PT α) (v x : Option α) (k : Nat) : (PT.node l v r).upd (k + 1) x = cond (Nat.beq (k % 2) 0) (.node (l.upd (k / 2) x) v r) (.node l v (r.upd (k / 2) x)) := by
  show @Bool.rec _ _ _ (Nat.beq (k % 2) 0) = _
  cases Nat.beq (k % 2) 0 <;> rfl
theorem PT.sing_zero {α : Type} (x : Option α) (f : Nat) : PT.sing x (f + 1) 0 = .node .nil x .nil := rfl
theorem PT.sing_succ {α : Type} (x : Option α) (f k : Nat) : PT.sing x (f + 1) (k + 1) = cond (Nat.beq (k % 2) 0) (.node (PT.sing x f (k / 2)) none .nil) (.node .nil none (PT.sing x f (k / 2))) := by
  show @Bool.rec _ _ _ (Nat.beq (k % 2) 0) = _
  cases Nat.beq (k % 2) 0 <;> rfl

theorem beq_dec (a b : Nat) : Nat.beq a b = decide (a = b) := by
  rw [Bool.eq_iff_iff]; simp [Nat.beq_eq]

theorem PT.get_sing {α : Type} (x : Option α) : ∀ (f n j : Nat), n < f → (PT.sing x f n).get j = if n = j then x else none := by
  intro f
  induction f with
  | zero => intro n j h; omega
  | succ f ih =>
    intro n j h
    cases n with
    | zero => cases j <;> simp [sing_zero, get_zero, get_succ, get_nil']
    | succ k =>
      have hk : k / 2 < f := by omega
      cases j with
      | zero => by_cases hb : k % 2 = 0 <;> simp [sing_succ, get_zero, beq_dec, hb]
      | succ m =>
        by_cases hb : k % 2 = 0 <;> by_cases hm : m % 2 = 0 <;> simp only [sing_succ, get_succ, get_nil', beq_dec, hb, hm, decide_true, decide_false, cond_true, cond_false, ih _ _ hk]
        · by_cases e : k = m
          · subst e; simp
          · rw [if_neg (by omega), if_neg (by omega)]
        · rw [if_neg (by omega)]
        · rw [if_neg (by omega)]
        · by_cases e : k = m
          · subst e; simp
          · rw [if_neg (by omega), if_neg (by omega)]

@[simp] theorem PT.get_upd {α : Type} (t : PT α) (n j : Nat) (x : Option α) : (t.upd n x).get j = if n = j then x else t.get j := by
  induction t generalizing n j with
  | nil => rw [upd_nil, get_sing x (n + 1) n j (by omega), get_nil']
  | node l v r ihl ihr =>
    cases n with
    | zero => cases j <;> simp [upd_zero, get_zero, get_succ]
    | succ k =>
      cases j with
      | zero => by_cases hb : k % 2 = 0 <;> simp [upd_succ, get_zero, beq_dec, hb]
      | succ m =>
        by_cases hb : k % 2 = 0 <;> by_cases hm : m % 2 = 0 <;> simp only [upd_succ, get_succ, beq_dec, hb, hm, decide_true, decide_false, cond_true, cond_false, ihl, ihr]
        · by_cases e : k = m
          · subst e; simp
          · rw [if_neg (by omega), if_neg (by omega)]
        · rw [if_neg (by omega)]
        · rw [if_neg (by omega)]
        · by_cases e : k = m
          · subst e; simp
          · rw [if_neg (by omega), if_neg (by omega)]
@[simp] theorem PT.get_nil {α : Type} (j : Nat) : (PT.nil : PT α).get j = none := rfl

/-! ### The abstract memory -/
inductive AObj where
  /-- a row of cells; z: the cells of one element, if slices of it may grow -/
  | cells (c : List Value) (z : Nat)
  | iter (s : ByteArray) (pos : Nat)
  /-- a row that is only read -/
  | table (c : List Value)
  /-- a map with texts for keys, in the order of its entries -/
  | map (l : List (ByteArray × Value))

structure St where
  mem : PT AObj
  next : Nat
  base : Nat
  log : List Nat

def St.note (st : St) (i : Nat) : List Nat := cond (Nat.blt i st.base) (cond (st.log.contains i) st.log (i :: st.log)) st.log
noncomputable def St.write (st : St) (i : Nat) (ob : Option AObj) : St := { st with mem := st.mem.upd i ob, log := st.note i }
noncomputable def St.new (st : St) (ob : AObj) : St := { st with mem := st.mem.upd st.next (some ob), next := st.next + 1 }

/-- The temporaries of a call. -/
structure Tm where
  t : PT Value
  n : Nat

noncomputable def Tm.get (τ : Tm) (i : Nat) : Value := (τ.t.get i).getD undef
noncomputable def Tm.put (τ : Tm) (d : Option Tmp) (v : Value) : Tm :=
  match d with
  | none => τ
  | some d => cond (Nat.blt d τ.n) { τ with t := τ.t.upd d (some v) } τ

/-! ### Values without addresses -/
def flat1 : Value → Bool
  | .bool _ | .int _ _ | .float _ _ | .complex _ _ _ | .string _ | .pointer none | .slice none 0 0 | .map none | .chan none | .nilFunc | .nilIface => true
  | .func (.func _) a b => a.isEmpty && b.isEmpty
  | _ => false
def flat2 : Value → Bool
  | .agg cs => cs.toList.all flat1
  | v => flat1 v
def flat3 : Value → Bool
  | .iface _ v => flat2 v
  | .tuple vs => vs.toList.all flat2
  | v => flat2 v

/-- A call that is told by a contract with new memory: rows A to B are its own; 'tabs' must lie as they are told. -/
structure Con where
  A : Nat
  B : Nat
  tabs : List (Nat × AObj)
  objs : List (Nat × AObj)
  v : Value
def eqVs : List Value → List Value → Bool
  | [], [] => true
  | .int k n :: a, .int k' n' :: b => cond (decide (k = k')) (cond (decide (n = n')) (eqVs a b) false) false
  | .string s :: a, .string s' :: b => cond (decide (s.data.toList = s'.data.toList)) (eqVs a b) false
  | .chan (some i) :: a, .chan (some j) :: b => cond (Nat.beq i j) (eqVs a b) false
  | _, _ => false
def eqTab : Option AObj → AObj → Bool
  | some (.table a), .table b => eqVs a b
  | _, _ => false
noncomputable def putAll : List (Nat × AObj) → PT AObj → PT AObj
  | [], m => m
  | x :: r, m => (putAll r m).upd x.1 (some x.2)

/-- What is looked up of a program: given apart, so that the lookups may be quick. -/
structure Lk where
  info : TypeId → Option TypeInfo
  und : TypeId → Option TypeDesc
  func : FuncId → Option (FuncId × Func)
  glob : Nat → Bool
  /-- calls that are told by a contract of their own: values without addresses in, one out -/
  ext : FuncId → List Value → Option Value
  con : FuncId → List Value → Nat → Option Con := fun _ _ _ => none
  /-- functions whose calls leave the memory as it was: what they made is forgotten -/
  pureF : FuncId → Bool := fun _ => false
  /-- what is told of the values that stand for the law's arguments -/
  symOp : BinOp → TypeId → Value → Value → Option Value := fun _ _ _ _ => none
  symLen : Nat → Option Value := fun _ => none

def Lk.size (L : Lk) (t : TypeId) : Option Nat := (L.info t).map (·.size)

/-- A computation that only reckons. -/
def runPure {α : Type} (P : Program) : Sem α → Option α
  | .pure a => some a
  | .program k => runPure P (k P)
  | .mark _ k => runPure P k
  | _ => none

/-- A value of one cell. -/
def one : Value → Bool
  | .agg _ | .tuple _ => false
  | _ => true

def pureV (P : Program) (s : Sem Value) : Option Value := (runPure P s).bind fun v => cond (flat3 v) (some v) none

/-- Values that stand for others: row i of channels stands for 'Sym.v i'. -/
class Sym where
  v : Nat → Value
  ok : ∀ i, (∃ k n, v i = .int k n) ∨ (∃ s, v i = .string s) ∨ ∃ t u, v i = .iface t u
def desym [Sym] : Value → Value
  | .chan (some i) => Sym.v i
  | v => v
def symOk : Value → Bool
  | .chan (some _) => true
  | v => flat1 v

def asNat? : Value → Option Nat
  | .int _ n => if 0 ≤ n then some n.toNat else none
  | _ => none

/-- What may be read of a pointer's address. -/
def addr? : Value → Option (Nat × Nat)
  | .pointer (some ⟨i, k, none⟩) => some (i, k)
  | _ => none
def ptr (i k : Nat) : Value := .pointer (some ⟨i, k, none⟩)

def partE (L : Lk) (t : TypeId) (cs : Array Value) (off : Nat) : Option Value :=
  match L.und t with
  | some (.struct _) | some (.array _ _) => (L.size t).map fun s => .agg (cs.extract off (off + s))
  | some _ => cs[off]?
  | none => none

/-- A struct or an array out of its parts. -/
def builtE (L : Lk) (t : TypeId) (ps : List (Nat × Value)) : Option (Array Value) :=
  (L.info t).bind fun i => i.zero.bind fun zero => cond (flat2 zero) (match L.und t with
    | some (.struct fields) => (fields.toList.mapM fun f => (L.info f.type).map fun i => (f.offset, i.size)).bind fun places =>
      Instr.fill (places.toArray[·]?) zero.cells ps
    | some (.array _ e) => (L.info e).bind fun ie => Instr.fill (fun i => some (i * ie.size, ie.size)) zero.cells ps
    | _ => none) none

def eqNil (d : TypeDesc) : Value → Value → Option Bool
  | .pointer (some _), .pointer none | .pointer none, .pointer (some _) => match d with | .pointer _ => some false | _ => none
  | .slice (some _) _ _, .slice none _ _ | .slice none _ _, .slice (some _) _ _ => match d with | .slice _ => some false | _ => none
  | .iface _ _, .nilIface | .nilIface, .iface _ _ => match d with | .interface _ => some false | _ => none
  | _, _ => none

def isStringy (L : Lk) (t : TypeId) : Bool := match L.und t with | some .string => true | _ => false

def sliceE (n cap : Nat) (lo hi : Option Value) : Option (Nat × Nat) :=
  (match hi with | some v => asNat? v | none => some n).bind fun h => (match lo with | some v => asNat? v | none => some 0).bind fun l =>
    cond (Nat.ble h cap && Nat.ble l h) (some (l, h)) none

/-- Operations that only reckon. -/
def pureE (P : Program) (L : Lk) (ρ : Operand → Option Value) (o : Oper) : Option Value :=
  match o.op with
  | .move x | .assign x => ρ x
  | .pick c a b => (ρ c).bind fun c => match c with
    | .bool true => ρ a
    | .bool false => ρ b
    | _ => none
  | .build t parts => (parts.toList.mapM fun p => (ρ p.2).map fun v => (p.1, v)).bind fun ps => (builtE L t ps).map .agg
  | .nilCheck x => (ρ x).bind fun v => match v with
    | .pointer (some a) => some (.pointer (some a))
    | .func (.func f) xs ys => some (.func (.func f) xs ys)
    | _ => none
  | .binOp op t x y _ => (ρ x).bind fun a => (ρ y).bind fun b =>
      cond (flat2 a && flat2 b) (pureV P (do eqGuard op t x y a b; binOp op t a b))
        (match L.symOp op t a b with
        | some r => cond (symOk a && symOk b) (some r) none
        | none => (L.und t).bind fun d => (eqNil d a b).bind fun r => match op with
          | .eql => some (.bool r)
          | .neq => some (.bool !r)
          | _ => none)
  | .unOp op _ x => (ρ x).bind fun a => cond (flat1 a) (pureV P (Op.unary op a)) none
  | .convert src dst x => (ρ x).bind fun a => cond (flat1 a) (pureV P (convert src dst a)) none
  | .slice t x lo hi none => (ρ x).bind fun a => (match lo with | some v => (ρ v).map some | none => some none).bind fun lo =>
      (match hi with | some v => (ρ v).map some | none => some none).bind fun hi => match a with
      | .string s => match L.und t with
        | some .string => (sliceE s.size s.size lo hi).map fun (l, h) => .string (s.extract l h)
        | _ => none
      | .slice none 0 0 => match L.und t with
        | some (.slice e) => (L.size e).bind fun _ => (sliceE 0 0 lo hi).map fun _ => .slice none 0 0
        | _ => none
      | .pointer (some ⟨i, k, none⟩) => match L.und t with
        | some (.array n e) => (L.size e).bind fun size => (sliceE n n lo hi).map fun (l, h) => .slice (some ⟨i, cond (Nat.beq n l) k (k + l * size), none⟩) (h - l) (n - l)
        | _ => none
      | _ => none
  | .fieldAddr s x f => (ρ x).bind fun a => (addr? a).bind fun (i, k) => match L.und s with
    | some (.struct fields) => (fields[f]?).bind fun fd => (L.size fd.type).bind fun z => cond (Nat.beq z 0) none (some (ptr i (k + fd.offset)))
    | _ => none
  | .indexAddr t x ix => (ρ x).bind fun a => (ρ ix).bind fun v => (asNat? v).bind fun n => match L.und t, a with
    | some (.array len e), .pointer (some ⟨i, k, none⟩) => cond (Nat.blt n len) ((L.size e).map fun z => ptr i (k + n * z)) none
    | some (.slice e), .slice (some ⟨i, k, none⟩) len _ => cond (Nat.blt n len) ((L.size e).map fun z => ptr i (k + n * z)) none
    | _, _ => none
  | .field t x f => (ρ x).bind fun a => match L.und t, a with
    | some (.struct fields), .agg cs => (fields[f]?).bind fun fd => partE L fd.type cs fd.offset
    | _, _ => none
  | .index t x ix => (ρ x).bind fun a => (ρ ix).bind fun v => (asNat? v).bind fun n => match L.und t, a with
    | some (.array len e), .agg cs => cond (Nat.blt n len) ((L.size e).bind fun z => partE L e cs (n * z)) none
    | some .string, .string s => (s[n]?).map fun b => .int .u8 b.toNat
    | _, _ => none
  | .extract t ix => (ρ t).bind fun a => match a with
    | .tuple vs => vs[ix]?
    | _ => none
  | .makeInterface t x => (ρ x).bind fun a => match L.und t with
    | some (.interface _) | none => none
    | some _ => some (.iface t a)
  | .makeFunc (.func f) first captured => (first.toList.mapM ρ).bind fun xs => (captured.toList.mapM ρ).bind fun ys => some (.func (.func f) xs.toArray ys.toArray)
  | .call { callee := .builtin b, args, argTypes } => (args.toList.mapM ρ).bind fun vs =>
      match b, vs with
      | .len, [.chan (some i)] => match (argTypes[0]?).bind L.und with | some .string => L.symLen i | _ => none
      | .len, [.slice _ n _] => match (argTypes[0]?).bind L.und with | some (.slice _) => some (goInt n) | _ => none
      | .len, [v] | .min, [v] | .max, [v] => cond (flat2 v) ((runPure P (builtin b argTypes o.type (args.map fun | .const _ => true | _ => false) #[v])).bind fun | .value v => cond (flat3 v) (some v) none | _ => none) none
      | .min, [.int k x, .int k' y] => if k = k' then some (.int k (if y < x then y else x)) else none
      | .max, [.int k x, .int k' y] => if k = k' then some (.int k (if y > x then y else x)) else none
      | _, _ => none
  | _ => none

/-- Operations that lay a new block, and read none. -/
def allocE (L : Lk) (ρ : Operand → Option Value) (o : Oper) : Option (AObj × (Nat → Value)) :=
  match o.op with
  | .alloc t => (L.info t).bind fun i => i.zero.bind fun zero => cond (flat2 zero) (some (.cells zero.cells.toList 0, fun n => ptr n 0)) none
  | .box _ x => (ρ x).map fun v => (.cells v.cells.toList 0, fun n => ptr n 0)
  | .buildSlice t len parts => (parts.toList.mapM fun p => (ρ p.2).map fun v => (p.1, v)).bind fun ps => match L.und t with
    | some (.slice e) => (L.info e).bind fun i => i.zero.bind fun zero =>
      cond (flat2 zero && Nat.ble (len * i.size) (2 ^ 24) && Nat.beq zero.cells.size i.size && Nat.blt 0 i.size)
        ((Instr.fill (fun j => some (j * i.size, i.size)) ((Array.range (len * i.size)).map (zero.cells[· % zero.cells.size]!)) ps).map fun cells =>
          (.cells cells.toList i.size, fun n => .slice (some ⟨n, 0, none⟩) len len)) none
    | _ => none
  | .makeSlice t len cap => (ρ len).bind fun l => (ρ cap).bind fun c => (asNat? l).bind fun l => (asNat? c).bind fun c => match L.und t with
    | some (.slice e) => (L.info e).bind fun i => i.zero.bind fun zero =>
      cond (flat2 zero && Nat.ble l c && Nat.ble c (2 ^ 40) && Nat.ble (c * i.bytes) (2 ^ 46) && Nat.beq zero.cells.size i.size && Nat.blt 0 i.size)
        (some (.cells ((Array.range (c * i.size)).map (zero.cells[· % zero.cells.size]!)).toList i.size, fun n => .slice (some ⟨n, 0, none⟩) l c)) none
    | _ => none
  | .convert src dst x => (ρ x).bind fun v => match L.und src, L.und dst, v with
    | some .string, some (.slice e), .string s => match L.und e with
      | some (.int .u8) => some (.cells (s.data.toList.map fun b => .int .u8 b.toNat) 1, fun n => .slice (some ⟨n, 0, none⟩) s.size s.size)
      | _ => none
    | _, _, _ => none
  | .range t x => (ρ x).bind fun v => match L.und t, v with
    | some .string, .string s => some (.iter s 0, fun n => ptr n 0)
    | _, _ => none
  | .makeMap _ none => some (.map [], fun n => .map (some n))
  | _ => none

/-- So many cells of a row. -/
def cut (c : List Value) (k n : Nat) : Option (List Value) :=
  let d := (c.drop k).take n
  cond (Nat.beq d.length n) (some d) none

def loadE (L : Lk) (t : TypeId) (k : Nat) (c : List Value) : Option Value :=
  match L.und t with
  | some (.struct _) | some (.array _ _) => (L.size t).bind fun n => (cut c k n).map fun d => .agg d.toArray
  | some _ => c[k]?
  | none => none

def bytesE : List Value → Option (List UInt8)
  | [] => some []
  | .int .u8 n :: r => (bytesE r).map (UInt8.ofNat n.toNat :: ·)
  | _ => none

/-- Operations that read one block, and write none. -/
def eqT (a b : ByteArray) : Bool := decide (a.data.toList = b.data.toList)
def findM (k : ByteArray) : List (ByteArray × Value) → Option Value
  | [] => none
  | x :: r => cond (eqT k x.1) (some x.2) (findM k r)
def setM (k : ByteArray) (v : Value) : List (ByteArray × Value) → List (ByteArray × Value)
  | [] => [(k, v)]
  | x :: r => cond (eqT k x.1) ((x.1, v) :: r) (x :: setM k v r)
def readE (L : Lk) (ρ : Operand → Option Value) (o : Oper) : Option (Nat × (AObj → Option Value)) :=
  match o.op with
  | .load t a => (ρ a).bind fun a => (addr? a).map fun (i, k) => (i, fun ob => match ob with | .cells c _ => loadE L t k c | .table c => loadE L t k c | _ => none)
  | .convert src dst x => (ρ x).bind fun v => match L.und src, L.und dst, v with
    | some (.slice e), some .string, .slice (some ⟨i, k, none⟩) n _ => match L.und e with
      | some (.int .u8) => some (i, fun ob => match ob with
        | .cells c _ => (cut c k n).bind fun d => (bytesE d).map fun l => .string ⟨l.toArray⟩
        | _ => none)
      | _ => none
    | _, _, _ => none
  | .slice t x lo hi none => (ρ x).bind fun a => (match lo with | some v => (ρ v).map some | none => some none).bind fun lo =>
      (match hi with | some v => (ρ v).map some | none => some none).bind fun hi => match a with
      | .slice (some ⟨i, k, none⟩) n cap => match L.und t with
        | some (.slice e) => (L.size e).bind fun size => (sliceE n cap lo hi).map fun (l, h) => (i, fun ob => match ob with
          | .cells _ z => cond (Nat.beq z size || Nat.beq z 0) (some (.slice (some ⟨i, cond (Nat.beq cap l) k (k + l * size), none⟩) (h - l) (cap - l))) none
          | _ => none)
        | _ => none
      | _ => none
  | .lookup t x ix ok => (ρ x).bind fun a => (ρ ix).bind fun b => match a, b, L.und t with
    | .map (some i), .string k, some (.map kt et) => match L.und kt with
      | some .string => (L.info et).bind fun inf => inf.zero.bind fun zero => cond (flat2 zero) (some (i, fun ob => match ob with
        | .map l => match findM k l with
          | some v => some (cond ok (.tuple #[v, .bool true]) v)
          | none => some (cond ok (.tuple #[zero, .bool false]) zero)
        | _ => none)) none
      | _ => none
    | _, _, _ => none
  | _ => none

def spliceE (c : List Value) (k : Nat) (vs : List Value) : Option (List Value) :=
  cond (Nat.ble (k + vs.length) c.length) (some (c.take k ++ (vs ++ c.drop (k + vs.length)))) none

noncomputable def storeE (st : St) (i k : Nat) (vs : List Value) : Option St :=
  match st.mem.get i with
  | some (.cells c z) => cond (vs.all one) ((spliceE c k vs).map fun c' => st.write i (some (.cells c' z))) none
  | _ => none

/-- The first cells of what is appended or copied. -/
noncomputable def firstE (st : St) (sz n : Nat) : Value → Option (List Value)
  | .slice (some ⟨i, k, none⟩) _ _ => match st.mem.get i with
    | some (.cells c _) => cut c k (n * sz)
    | _ => none
  | .slice none _ _ => cond (Nat.beq n 0) (some []) none
  | .string s => cond (Nat.beq sz 1) (cut (s.data.toList.map fun b => .int .u8 b.toNat) 0 n) none
  | _ => none

def lenE : Value → Option Nat
  | .slice _ n _ => some n
  | .string s => some s.size
  | _ => none

noncomputable def appendE (L : Lk) (st : St) (t : TypeId) (xt : TypeId) (s x : Value) : Option (Value × St) :=
  match L.und t, L.und xt with
  | some (.slice _), some (.int _) => none
  | some (.slice e), some _ => (L.info e).bind fun i => i.zero.bind fun zero => (lenE x).bind fun n => match s with
    | .slice none 0 0 =>
      cond (Nat.beq n 0) (some (s, st))
        (cond (Nat.ble ((n + 1) * i.bytes) (2 ^ 44) && Nat.ble n (2 ^ 44) && Nat.blt 0 i.bytes && Nat.blt 0 i.size && Nat.beq zero.cells.size i.size && flat2 zero)
          ((firstE st i.size n x).bind fun new => some (.slice (some ⟨st.next, 0, none⟩) n n, st.new (.cells new i.size))) none)
    | .slice (some ⟨j, k, none⟩) len cap =>
      cond (Nat.beq n 0) (some (s, st))
        (cond (Nat.ble ((len + n + 1) * i.bytes) (2 ^ 44) && Nat.ble (len + n) (2 ^ 44) && Nat.blt 0 i.bytes && Nat.blt 0 i.size && Nat.beq zero.cells.size i.size && flat2 zero)
          (match st.mem.get j with
          | some (.cells c z) =>
            cond (Nat.beq z i.size && (Nat.blt cap (len + n) || Nat.ble (k + cap * i.size) c.length))
              ((cut c k (len * i.size)).bind fun old => (firstE st i.size n x).bind fun new =>
                cond (new.all one) (some (.slice (some ⟨st.next, 0, none⟩) (len + n) (len + n), (st.write j none).new (.cells (old ++ new) i.size))) none) none
          | _ => none) none)
    | _ => none
  | _, _ => none

inductive Kd where
  | blind
  | read (i : Nat)
  | gen

noncomputable def resultsE (L : Lk) (rs : List ResultVar) (τ : Tm) (st : St) : Option (List Value) :=
  rs.mapM fun
    | .tmp t => some (τ.get t)
    | .cell a t => (addr? (τ.get a)).bind fun (i, k) => match st.mem.get i with
      | some (.cells c _) => loadE L t k c
      | _ => none

def packE : List Value → Value
  | [v] => v
  | vs => .tuple vs.toArray

/-- Operations that write, or call. -/
noncomputable def genE (L : Lk) (callf : FuncId → List Value → St → Option (Value × St)) (ρ : Operand → Option Value) (o : Oper) (st : St) : Option (Value × St) :=
  match o.op with
  | .store t a x => (ρ a).bind fun a => (ρ x).bind fun v => (addr? a).bind fun (i, k) => (L.size t).bind fun n =>
      cond (Nat.beq v.cells.size n) ((storeE st i k v.cells.toList).map fun st => (undef, st)) none
  | .next it true => (ρ it).bind fun a => (addr? a).bind fun (i, k) => match k, st.mem.get i with
    | 0, some (.iter s pos) =>
      cond (Nat.blt pos s.size) (let d := Utf8.decode s pos; some (.tuple #[.bool true, goInt pos, .int .i32 d.1], st.write i (some (.iter s (pos + d.2)))))
        (some (.tuple #[.bool false], st))
    | _, _ => none
  | .mapUpdate t m k x => (ρ m).bind fun m => (ρ k).bind fun k => (ρ x).bind fun v => match m, k, L.und t with
    | .map (some i), .string k, some (.map kt _) => match L.und kt, st.mem.get i with
      | some .string, some (.map l) => some (undef, st.write i (some (.map (setM k v l))))
      | _, _ => none
    | _, _, _ => none
  | .call { callee := .value f, args, argTypes := _ } => (ρ f).bind fun f => (args.toList.mapM ρ).bind fun vs => match f with
    | .func (.func f) xs ys => callf f (xs.toList ++ vs ++ ys.toList) st
    | _ => none
  | .call { callee := .builtin b, args, argTypes } => (args.toList.mapM ρ).bind fun vs => match b, vs, argTypes.toList with
    | .append, [s, x], [t, xt] => appendE L st t xt s x
    | .copy, [d, x], [t, _] => match L.und t with
      | some (.slice e) => (L.size e).bind fun sz => (lenE x).bind fun n => match d with
        | .slice (some ⟨i, k, none⟩) len _ => (firstE st sz (Nat.min n len) x).bind fun new => (storeE st i k new).map fun st => (goInt (Nat.min n len), st)
        | .slice none 0 0 => some (goInt 0, st)
        | _ => none
      | _ => none
    | .clear, [x], [t] => match L.und t, x with
      | some _, .slice none _ _ | some _, .slice _ 0 _ => some (.tuple #[], st)
      | some (.slice e), .slice (some ⟨i, k, none⟩) n _ => (L.info e).bind fun inf => inf.zero.bind fun zero =>
        cond (flat2 zero) ((storeE st i k (Builtin.zeroCells zero.cells n).toList).map fun st => (.tuple #[], st)) none
      | _, _ => none
    | _, _, _ => none
  | _ => none

noncomputable def opE (P : Program) (L : Lk) (callf : FuncId → List Value → St → Option (Value × St)) (ρ : Operand → Option Value) (o : Oper) (st : St) : Option (Value × Kd × St) :=
  match pureE P L ρ o with
  | some v => some (v, .blind, st)
  | none => match allocE L ρ o with
    | some (ob, v) => some (v st.next, .blind, st.new ob)
    | none => match readE L ρ o with
      | some (i, g) => (st.mem.get i).bind fun ob => (g ob).map fun v => (v, .read i, st)
      | none => (genE L callf ρ o st).map fun (v, st) => (v, .gen, st)

noncomputable def rho (L : Lk) (τ : Tm) : Operand → Option Value
  | .tmp t => some (τ.get t)
  | .const v => cond (flat3 v) (some v) none
  | .global g => cond (L.glob g) (some (ptr g 0)) none
  | .func f => some (.func (.func f) #[] #[])

noncomputable def wantedE (ops : List Oper) (τ : Tm) (o : Oper) : Bool :=
  match o.guard with
  | none => true
  | some (j, want) => match ((ops[j]?).bind (·.dst)) with
    | some d => match τ.get d with
      | .bool b => b == want
      | _ => false
    | none => false

noncomputable def opsE (P : Program) (L : Lk) (callf : FuncId → List Value → St → Option (Value × St)) (ops : List Oper) : List Oper → Tm → St → Option (Tm × St)
  | [], τ, st => some (τ, st)
  | o :: rest, τ, st => cond (wantedE ops τ o)
      ((opE P L callf (rho L τ) o st).bind fun (v, _, st) => opsE P L callf ops rest (τ.put o.dst v) st)
      (opsE P L callf ops rest (τ.put o.dst undef) st)

/-! ### A region that draws its order -/
structure Rec where
  o : Oper
  preds : Nat       -- its place, and those ahead of it in every order: a set of bits
  log : List Nat
  kd : Kd

def binding (e : Edge) : Bool := match e.ground with | .textOnly _ | .gcOnly _ => false | _ => true

def predsE (recs : List Rec) (o : Oper) : Nat :=
  o.after.toList.foldl (fun m e => cond (binding e) (m ||| ((recs[e.on]?).map (·.preds)).getD 0) m) 0

def okPair (a b : Rec) : Bool :=
  (a.log.isEmpty || match b.kd with | .blind => true | .read i => !a.log.contains i | .gen => false) &&
  (b.log.isEmpty || match a.kd with | .blind => true | .read i => !b.log.contains i | .gen => false)

def okWith (ops : Array Oper) (recs : List Rec) (k : Nat) (r : Rec) : Bool :=
  match recs with
  | [] => true
  | x :: rest => (r.preds.testBit k || (okPair x r && x.o.apart ops r.o)) && (x.o.dst != r.o.dst || x.o.dst == none) && okWith ops rest (k + 1) r

noncomputable def drawE (P : Program) (L : Lk) (callf : FuncId → List Value → St → Option (Value × St)) (ops : Array Oper) : List Oper → List Rec → Tm → St → Option (Tm × St)
  | [], _, τ, st => some (τ, st)
  | o :: rest, recs, τ, st =>
    (cond (wantedE ops.toList τ o) (opE P L callf (rho L τ) o { st with base := st.next, log := [] }) (some (undef, .blind, { st with base := st.next, log := [] }))).bind fun (v, kd, st') =>
      let r : Rec := { o, preds := predsE recs o ||| (1 <<< recs.length), log := st'.log, kd }
      cond (okWith ops recs 0 r && o.after.all fun e => !binding e || Nat.blt e.on recs.length)
        (drawE P L callf ops rest (recs ++ [r]) (τ.put o.dst v) { st' with base := st.base, log := (st'.log.filter fun i => Nat.blt i st.base && !st.log.contains i) ++ st.log }) none

/-! ### The code -/
inductive Ex where
  | normal
  | exit (id : Nat)
  | ret

noncomputable def tmOf : List Value → Nat → PT Value → PT Value
  | [], _, t => t
  | v :: vs, i, t => tmOf vs (i + 1) (t.upd i (some v))

noncomputable def callE (L : Lk) (rec : Code → Tm → St → Option (Ex × Tm × St)) (f : FuncId) (args : List Value) (st : St) : Option (Value × St) :=
  match L.ext f args with
  | some v => some (v, st)
  | none => match L.con f args st.next with
  | some c => cond (Nat.ble st.next c.A && Nat.ble c.A c.B && c.objs.all (fun x => Nat.ble c.A x.1 && Nat.blt x.1 c.B) && c.tabs.all (fun x => L.glob x.1 && Nat.blt x.1 c.A && eqTab (st.mem.get x.1) x.2)) (some (c.v, { st with mem := putAll c.objs st.mem, next := c.B })) none
  | none => (L.func f).bind fun (_, fn) => fn.body.bind fun c =>
    cond (Nat.ble args.length fn.ntmps) (cond (L.pureF f)
      ((rec c ⟨tmOf args 0 .nil, fn.ntmps⟩ { st with base := st.next, log := [] }).bind fun (e, τ, st1) => match e with
        | .exit _ => none
        | _ => (resultsE L fn.results.toList τ st1).bind fun vs => cond (st1.log.isEmpty && flat3 (packE vs)) (some (packE vs, { st with next := st1.next })) none)
      ((rec c ⟨tmOf args 0 .nil, fn.ntmps⟩ st).bind fun (e, τ, st) => match e with
        | .exit _ => none
        | _ => (resultsE L fn.results.toList τ st).map fun vs => (packE vs, st))) none

noncomputable def codeE (P : Program) (L : Lk) : Nat → Code → Tm → St → Option (Ex × Tm × St)
  | 0, _, _, _ => none
  | n + 1, c, τ, st =>
    match c with
    | .skip | .label _ => some (.normal, τ, st)
    | .region _ ops false => (opsE P L (callE L (codeE P L n)) ops.toList ops.toList τ st).map fun (τ, st) => (.normal, τ, st)
    | .region _ ops true => (drawE P L (callE L (codeE P L n)) ops ops.toList [] τ st).map fun (τ, st) => (.normal, τ, st)
    | .seq a b => (codeE P L n a τ st).bind fun (e, τ, st) => match e with
      | .normal => codeE P L n b τ st
      | e => some (e, τ, st)
    | .cond c a b => (rho L τ c).bind fun v => match v with
      | .bool true => codeE P L n a τ st
      | .bool false => codeE P L n b τ st
      | _ => none
    | .block id body => (codeE P L n body τ st).bind fun (e, τ, st) => match e with
      | .exit id' => some (cond (Nat.beq id' id) .normal (.exit id'), τ, st)
      | e => some (e, τ, st)
    | .loop body => (codeE P L n body τ st).bind fun (e, τ, st) => match e with
      | .normal => codeE P L n (.loop body) τ st
      | e => some (e, τ, st)
    | .exit id => some (.exit id, τ, st)
    | .ret => some (.ret, τ, st)
    | _ => none

noncomputable def runE (P : Program) (L : Lk) (n : Nat) (f : FuncId) (args : List Value) (st : St) : Option (Value × St) := callE L (codeE P L n) f args st

structure Lk.Ok [Sym] (L : Lk) (P : Program) : Prop where
  info : ∀ t i, L.info t = some i → P.info? t = some i
  und : ∀ t d, L.und t = some d → P.underlying t = some d
  func : ∀ f j fn, L.func f = some (j, fn) → (∀ args w, (callFunc f args).run P w = .ok (.enter j args) w) ∧ P.funcs[j]? = some fn
  mixed : P.follows .mixedOrders = true
  ext : ∀ f vs v, L.ext f vs = some v → (∀ x ∈ vs, flat3 x = true) ∧ flat3 v = true ∧ ∀ w,
    (∃ j, (∀ as w, (callFunc f as).run P w = .ok (.enter j as) w) ∧ Calls P j vs.toArray w fun e w' => e = .returned v ∧ RowKit.Below w.heap.size w w') ∨ (callFunc f vs.toArray).run P w = .ok (.value v) w
  symOp : ∀ op t a b r, L.symOp op t a b = some r → ∀ x y, pureV P (do eqGuard op t x y (desym a) (desym b); binOp op t (desym a) (desym b)) = some r
  symLen : ∀ i r, L.symLen i = some r → symOk r = true ∧ ∃ s, Sym.v i = .string s ∧ desym r = goInt s.size

end Go.E
/- The relation between abstract values and a world's, and its small laws. -/
set_option linter.unusedSimpArgs false
set_option linter.unusedVariables false
namespace Go.E

/-- Where an abstract block lies: the block, where in it, how many cells the block has, how many an element has. -/
structure Pl where
  b : Nat
  o : Nat
  s : Nat
  z : Nat

abbrev Emb := Nat → Option Pl

inductive VR [Sym] (β : Emb) : Value → Value → Prop
  | bool (b : Bool) : VR β (.bool b) (.bool b)
  | int (k : IntKind) (n : Int) : VR β (.int k n) (.int k n)
  | float (k : FloatKind) (b : Nat) : VR β (.float k b) (.float k b)
  | complex (k : FloatKind) (a b : Nat) : VR β (.complex k a b) (.complex k a b)
  | string (s : ByteArray) : VR β (.string s) (.string s)
  | ptr0 : VR β (.pointer none) (.pointer none)
  | ptr {i k : Nat} {p : Pl} : β i = some p → VR β (.pointer (some ⟨i, k, none⟩)) (.pointer (some ⟨p.b, p.o + k, none⟩))
  | slice0 : VR β (.slice none 0 0) (.slice none 0 0)
  | slice {i k k' l c c' : Nat} {p : Pl} : β i = some p → l ≤ c → c ≤ c' → (c = 0 ∨ k' = p.o + k) → (c' = c ∨ (p.z ≠ 0 ∧ k' + c' * p.z ≤ p.s)) →
      VR β (.slice (some ⟨i, k, none⟩) l c) (.slice (some ⟨p.b, k', none⟩) l c')
  | map0 : VR β (.map none) (.map none)
  | map {i : Nat} {p : Pl} : β i = some p → VR β (.map (some i)) (.map (some p.b))
  | sym (i : Nat) : VR β (.chan (some i)) (Sym.v i)
  | chan0 : VR β (.chan none) (.chan none)
  | nilFunc : VR β .nilFunc .nilFunc
  | nilIface : VR β .nilIface .nilIface
  | func {f : FuncId} {xs ys xs' ys' : Array Value} : xs.size = xs'.size → (∀ (i : Nat) x y, xs[i]? = some x → xs'[i]? = some y → VR β x y) →
      ys.size = ys'.size → (∀ (i : Nat) x y, ys[i]? = some x → ys'[i]? = some y → VR β x y) → VR β (.func (.func f) xs ys) (.func (.func f) xs' ys')
  | iface {t : TypeId} {v v' : Value} : VR β v v' → VR β (.iface t v) (.iface t v')
  | agg {xs ys : Array Value} : xs.size = ys.size → (∀ (i : Nat) x y, xs[i]? = some x → ys[i]? = some y → VR β x y) → VR β (.agg xs) (.agg ys)
  | tuple {xs ys : Array Value} : xs.size = ys.size → (∀ (i : Nat) x y, xs[i]? = some x → ys[i]? = some y → VR β x y) → VR β (.tuple xs) (.tuple ys)

/-- Lists of related values. -/
def VRs [Sym] (β : Emb) (l l' : List Value) : Prop := l.length = l'.length ∧ ∀ (i : Nat) x y, l[i]? = some x → l'[i]? = some y → VR β x y

theorem VRs.nil [Sym] {β : Emb} : VRs β [] [] := ⟨rfl, fun i x y h => by simp at h⟩
theorem VRs.cons [Sym] {β : Emb} {x y : Value} {l l' : List Value} (h : VR β x y) (hs : VRs β l l') : VRs β (x :: l) (y :: l') :=
  ⟨by simp [hs.1], fun i a b ha hb => by
    cases i with
    | zero => simp at ha hb; subst ha; subst hb; exact h
    | succ i => simp at ha hb; exact hs.2 i a b ha hb⟩
theorem VRs.of_cons [Sym] {β : Emb} {x : Value} {l l' : List Value} (h : VRs β (x :: l) l') : ∃ y r, l' = y :: r ∧ VR β x y ∧ VRs β l r := by
  cases l' with
  | nil => simp [VRs] at h
  | cons y r =>
    refine ⟨y, r, rfl, h.2 0 x y rfl rfl, by simpa using h.1, fun i a b ha hb => h.2 (i + 1) a b (by simpa using ha) (by simpa using hb)⟩
theorem VRs.of_nil [Sym] {β : Emb} {l' : List Value} (h : VRs β [] l') : l' = [] := by
  cases l' with
  | nil => rfl
  | cons y r => simp [VRs] at h
theorem VRs.append [Sym] {β : Emb} {a a' b b' : List Value} (h : VRs β a a') (k : VRs β b b') : VRs β (a ++ b) (a' ++ b') := by
  induction a generalizing a' with
  | nil => rw [h.of_nil]; simpa using k
  | cons x a ih =>
    obtain ⟨y, r, rfl, hx, hr⟩ := h.of_cons
    exact VRs.cons hx (ih hr)
theorem VRs.take [Sym] {β : Emb} {a a' : List Value} (n : Nat) (h : VRs β a a') : VRs β (a.take n) (a'.take n) :=
  ⟨by simp [h.1], fun i x y hx hy => by
    rw [List.getElem?_take] at hx hy
    split at hx
    · rename_i hi; rw [if_pos hi] at hy; exact h.2 i x y hx hy
    · cases hx⟩
theorem VRs.drop [Sym] {β : Emb} {a a' : List Value} (n : Nat) (h : VRs β a a') : VRs β (a.drop n) (a'.drop n) :=
  ⟨by simp [h.1], fun i x y hx hy => by
    rw [List.getElem?_drop] at hx hy
    exact h.2 _ x y hx hy⟩
theorem VRs.get [Sym] {β : Emb} {a a' : List Value} (h : VRs β a a') {i : Nat} {x : Value} (hx : a[i]? = some x) : ∃ y, a'[i]? = some y ∧ VR β x y := by
  have hi : i < a.length := (List.getElem?_eq_some_iff.1 hx).1
  have hi' : i < a'.length := h.1 ▸ hi
  exact ⟨a'[i], List.getElem?_eq_getElem hi', h.2 i x _ hx (List.getElem?_eq_getElem hi')⟩
theorem VRs.agg [Sym] {β : Emb} {xs ys : Array Value} (h : VRs β xs.toList ys.toList) : VR β (.agg xs) (.agg ys) :=
  .agg (by simpa using h.1) fun i x y hx hy => h.2 i x y (by simpa using hx) (by simpa using hy)
theorem VRs.tuple [Sym] {β : Emb} {xs ys : Array Value} (h : VRs β xs.toList ys.toList) : VR β (.tuple xs) (.tuple ys) :=
  .tuple (by simpa using h.1) fun i x y hx hy => h.2 i x y (by simpa using hx) (by simpa using hy)
theorem VRs.of_array [Sym] {β : Emb} {xs ys : Array Value} (h : xs.size = ys.size) (h' : ∀ (i : Nat) x y, xs[i]? = some x → ys[i]? = some y → VR β x y) : VRs β xs.toList ys.toList :=
  ⟨by simpa using h, fun i x y hx hy => h' i x y (by simpa using hx) (by simpa using hy)⟩

theorem VR.mono [Sym] {β β' : Emb} (hb : ∀ i p, β i = some p → β' i = some p) {v v' : Value} (h : VR β v v') : VR β' v v' := by
  induction h with
  | bool b => exact .bool b
  | int k n => exact .int k n
  | float k b => exact .float k b
  | complex k a b => exact .complex k a b
  | string s => exact .string s
  | ptr0 => exact .ptr0
  | ptr h => exact .ptr (hb _ _ h)
  | slice0 => exact .slice0
  | slice h a b c d => exact .slice (hb _ _ h) a b c d
  | map0 => exact .map0
  | map h => exact .map (hb _ _ h)
  | sym i => exact .sym i
  | chan0 => exact .chan0
  | nilFunc => exact .nilFunc
  | nilIface => exact .nilIface
  | func a _ b _ ih1 ih2 => exact .func a ih1 b ih2
  | iface _ ih => exact .iface ih
  | agg a _ ih => exact .agg a ih
  | tuple a _ ih => exact .tuple a ih
theorem VRs.mono [Sym] {β β' : Emb} (hb : ∀ i p, β i = some p → β' i = some p) {l l' : List Value} (h : VRs β l l') : VRs β' l l' :=
  ⟨h.1, fun i x y hx hy => (h.2 i x y hx hy).mono hb⟩

theorem VR.of_tuple [Sym] {β : Emb} {u : Value} {ys : Array Value} (h : VR β u (.tuple ys)) : ∃ xs, u = .tuple xs := by
  generalize e : Value.tuple ys = v at h
  cases h with
  | tuple a b => exact ⟨_, rfl⟩
  | sym i => rcases Sym.ok i with ⟨k, n, e'⟩ | ⟨s, e'⟩ | ⟨t, u, e'⟩ <;> rw [e'] at e <;> cases e
  | _ => cases e
theorem VR.undef [Sym] {β : Emb} : VR β undef undef := .tuple rfl fun i x y h => by simp at h

theorem VR.one_eq [Sym] {β : Emb} {v v' : Value} (h : VR β v v') : one v' = one v := by cases h <;> first | rfl | (rename_i i; rcases Sym.ok i with ⟨k, n, e⟩ | ⟨s, e⟩ | ⟨t, u, e⟩ <;> rw [e] <;> rfl)
theorem VR.cells [Sym] {β : Emb} {v v' : Value} (h : VR β v v') : VRs β v.cells.toList v'.cells.toList := by
  cases h with
  | agg a b => exact VRs.of_array a b
  | sym i =>
    have e : (Sym.v i).cells = #[Sym.v i] := by rcases Sym.ok i with ⟨k, n, e⟩ | ⟨s, e⟩ | ⟨t, u, e⟩ <;> rw [e] <;> rfl
    rw [e]; exact VRs.cons (.sym i) VRs.nil
  | _ => exact VRs.cons (by constructor <;> assumption) VRs.nil

theorem eq_of_all {xs ys : Array Value} (h : xs.size = ys.size) (h' : ∀ (i : Nat) x y, xs[i]? = some x → ys[i]? = some y → y = x) : ys = xs := by
  apply Array.ext
  · exact h.symm
  · intro i h1 h2
    exact h' i xs[i] ys[i] (Array.getElem?_eq_getElem h2) (Array.getElem?_eq_getElem h1)

theorem flat1_refl [Sym] {β : Emb} {v : Value} (h : flat1 v = true) : VR β v v := by
  unfold flat1 at h
  split at h <;> first
    | (constructor; done)
    | (cases h; done)
    | skip
  rename_i f a b
  simp only [Bool.and_eq_true, Array.isEmpty_iff] at h
  obtain ⟨rfl, rfl⟩ := h
  exact .func rfl (fun i x y h => by simp at h) rfl (fun i x y h => by simp at h)
theorem all_refl [Sym] {β : Emb} {p : Value → Bool} (hp : ∀ v, p v = true → VR β v v) {cs : Array Value} (h : cs.toList.all p = true) :
    ∀ (i : Nat) x y, cs[i]? = some x → cs[i]? = some y → VR β x y := by
  intro i x y hx hy
  rw [hx] at hy
  cases hy
  exact hp x (List.all_eq_true.1 h x (by simpa using Array.mem_of_getElem? hx))
theorem flat2_refl [Sym] {β : Emb} {v : Value} (h : flat2 v = true) : VR β v v := by
  unfold flat2 at h
  split at h
  · exact .agg rfl (all_refl (fun v => flat1_refl) h)
  · exact flat1_refl h
theorem flat3_refl [Sym] {β : Emb} {v : Value} (h : flat3 v = true) : VR β v v := by
  unfold flat3 at h
  split at h
  · exact .iface (flat2_refl h)
  · exact .tuple rfl (all_refl (fun v => flat2_refl) h)
  · exact flat2_refl h

theorem flat1_eq [Sym] {β : Emb} {v v' : Value} (h : flat1 v = true) (r : VR β v v') : v' = v := by
  cases r with
  | func a ha b hb =>
    simp only [flat1, Bool.and_eq_true, Array.isEmpty_iff] at h
    obtain ⟨rfl, rfl⟩ := h
    simp at a b
    rw [Eq.comm, Array.size_eq_zero_iff] at a b
    rw [a, b]
  | _ => first | rfl | (simp [flat1] at h; done)
theorem flat2_eq [Sym] {β : Emb} {v v' : Value} (h : flat2 v = true) (r : VR β v v') : v' = v := by
  unfold flat2 at h
  split at h
  · rename_i cs
    cases r with
    | agg a b =>
      congr 1
      exact eq_of_all a fun i x y hx hy => flat1_eq (List.all_eq_true.1 h x (by simpa using Array.mem_of_getElem? hx)) (b i x y hx hy)
  · exact flat1_eq h r
theorem flat3_eq [Sym] {β : Emb} {v v' : Value} (h : flat3 v = true) (r : VR β v v') : v' = v := by
  unfold flat3 at h
  split at h
  · cases r with
    | iface r => rw [flat2_eq h r]
  · rename_i cs
    cases r with
    | tuple a b =>
      congr 1
      exact eq_of_all a fun i x y hx hy => flat2_eq (List.all_eq_true.1 h x (by simpa using Array.mem_of_getElem? hx)) (b i x y hx hy)
  · exact flat2_eq h r

theorem symOk_eq [Sym] {β : Emb} {v v' : Value} (h : symOk v = true) (r : VR β v v') : v' = desym v := by
  unfold symOk at h
  split at h
  · cases r; rfl
  · rename_i hne
    rw [flat1_eq h r]
    unfold desym
    split
    · rename_i i; exact absurd rfl (hne i)
    · rfl
theorem symOk_refl [Sym] {β : Emb} {v : Value} (h : symOk v = true) : VR β v (desym v) := by
  unfold symOk at h
  split at h
  · exact .sym _
  · rename_i hne
    unfold desym
    split
    · rename_i i; exact absurd rfl (hne i)
    · exact flat1_refl h

/-! ### Blocks -/
def OR [Sym] (β : Emb) (p : Pl) (obj : Obj) : AObj → Prop
  | .cells c z => ∃ arr T fr, obj = .cells arr T fr ∧ arr.size = p.s ∧ p.z = z ∧ p.o + c.length ≤ p.s ∧ (∀ k, k < p.s → ¬ (fr.1 ≤ k ∧ k < fr.2)) ∧
      ∀ j v, c[j]? = some v → ∃ v', arr[p.o + j]? = some v' ∧ VR β v v'
  | .iter s pos => p.o = 0 ∧ obj = .stringIter s pos
  | .table c => ∃ arr T fr, obj = .cells arr T fr ∧ ∀ j v, c[j]? = some v → ∃ v', arr[p.o + j]? = some v' ∧ VR β v v'
  | .map l => p.o = 0 ∧ ∃ es clock, obj = .map es clock ∧ es.toList.length = l.length ∧ ∀ (j : Nat) k v, l[j]? = some (k, v) → ∃ e, es.toList[j]? = some e ∧ e.key = .string k ∧ VR β v e.val

theorem OR.mono [Sym] {β β' : Emb} (hb : ∀ i p, β i = some p → β' i = some p) {p : Pl} {obj : Obj} {ob : AObj} (h : OR β p obj ob) : OR β' p obj ob := by
  cases ob with
  | cells c z =>
    obtain ⟨arr, T, fr, h1, h2, h3, h4, h5, h6⟩ := h
    exact ⟨arr, T, fr, h1, h2, h3, h4, h5, fun j v hv => let ⟨v', a, b⟩ := h6 j v hv; ⟨v', a, b.mono hb⟩⟩
  | iter s pos => exact h
  | table c =>
    obtain ⟨arr, T, fr, h1, h6⟩ := h
    exact ⟨arr, T, fr, h1, fun j v hv => let ⟨v', a, b⟩ := h6 j v hv; ⟨v', a, b.mono hb⟩⟩
  | map l =>
    obtain ⟨h0, es, clock, h1, h2, h6⟩ := h
    exact ⟨h0, es, clock, h1, h2, fun j k v hv => let ⟨e, a, b, c⟩ := h6 j k v hv; ⟨e, a, b, c.mono hb⟩⟩
theorem OR.table [Sym] {β : Emb} {p : Pl} {obj : Obj} {c : List Value} {z : Nat} (h : OR β p obj (.cells c z)) : OR β p obj (.table c) :=
  let ⟨arr, T, fr, h1, _, _, _, _, h6⟩ := h
  ⟨arr, T, fr, h1, h6⟩

abbrev View := Nat → Option AObj
structure Rep [Sym] (β : Emb) (V : View) (w : World) : Prop where
  inb : ∀ i p, β i = some p → p.b < w.heap.size
  obj : ∀ i p ob, β i = some p → V i = some ob → ∃ obj, w.heap[p.b]? = some obj ∧ OR β p obj ob
  inj : ∀ i j p q, β i = some p → β j = some q → V i ≠ none → V j ≠ none → p.b = q.b → i = j

def GOk (β : Emb) (L : Lk) : Prop := ∀ g, L.glob g = true → ∃ p, β g = some p ∧ p.b = g ∧ p.o = 0

/-! ### Running -/
def aggD : TypeDesc → Bool
  | .struct _ | .array _ _ => true
  | _ => false
theorem aggD_no {d : TypeDesc} (h1 : ∀ f, d = .struct f → False) (h2 : ∀ n e, d = .array n e → False) : aggD d = false := by
  cases d <;> first | rfl | exact absurd rfl (h1 _) | exact absurd rfl (h2 _ _)
section
variable {P : Program}
theorem runPure_run {α : Type} : ∀ (s : Sem α) (a : α), runPure P s = some a → ∀ w, s.run P w = .ok a w := by
  intro s
  induction s with
  | pure a => intro b h w; simp [runPure] at h; subst h; rfl
  | program k ih => intro b h w; exact ih P b h w
  | mark m k ih => intro b h w; exact ih b h w
  | _ => intro b h; simp [runPure] at h

theorem run_bind {α γ : Type} (s : Sem α) (f : α → Sem γ) (w : World) : (s >>= f).run P w = match s.run P w with
    | .ok a w' => (f a).run P w'
    | .halt h w' => .halt h w' := by
  show (Sem.bind s f).run P w = _
  induction s generalizing w with
  | pure a => rfl
  | load m a k ih =>
    simp only [Sem.bind, Sem.run]
    split
    · exact ih _ w
    · split
      · exact ih _ w
      · rfl
  | store m a v k ih =>
    cases v <;> simp only [Sem.bind, Sem.run] <;> first
      | rfl
      | (split
         · split
           · rfl
           · exact ih _
         · split
           · exact ih _
           · rfl)
  | new o k ih => simp only [Sem.bind, Sem.run]; exact ih _ _
  | shape r k ih => simp only [Sem.bind, Sem.run]; exact ih _ _
  | freeze a n k ih => simp only [Sem.bind, Sem.run]; exact ih _
  | frozen a k ih => simp only [Sem.bind, Sem.run]; exact ih _ _
  | getObj r k ih =>
    simp only [Sem.bind, Sem.run]
    split
    · rfl
    · exact ih _ _
    · rfl
  | setObj r o k ih =>
    simp only [Sem.bind, Sem.run]
    split
    · rfl
    · exact ih _
    · rfl
  | choose q k ih =>
    simp only [Sem.bind, Sem.run]
    split
    · exact ih _ _
    · exact ih _ _
  | sys c k ih => simp only [Sem.bind, Sem.run]; exact ih _ _
  | program k ih => simp only [Sem.bind, Sem.run]; exact ih _ _
  | mark m k ih => simp only [Sem.bind, Sem.run]; exact ih _
  | halt h => rfl

theorem run_ok {α γ : Type} {s : Sem α} {f : α → Sem γ} {w w' : World} {a : α} (h : s.run P w = .ok a w') : (s >>= f).run P w = (f a).run P w' := by
  rw [run_bind, h]
@[simp] theorem run_pure {α : Type} (a : α) (w : World) : (pure a : Sem α).run P w = .ok a w := rfl
@[simp] theorem run_program (w : World) : (program : Sem Program).run P w = .ok P w := rfl
theorem run_underlying {t : TypeId} {d : TypeDesc} (h : P.underlying t = some d) (w : World) : (underlying t).run P w = .ok d w := by
  unfold underlying; rw [run_ok (run_program w)]; simp [h]
theorem run_info {t : TypeId} {i : TypeInfo} (h : P.info? t = some i) (w : World) : (typeInfo t).run P w = .ok i w := by
  unfold typeInfo; rw [run_ok (run_program w)]; simp [h]
theorem run_size {t : TypeId} {i : TypeInfo} (h : P.info? t = some i) (w : World) : (sizeOf t).run P w = .ok i.size w := by
  unfold sizeOf; rw [run_ok (run_info h w)]; rfl
theorem run_zero {t : TypeId} {i : TypeInfo} {z : Value} (h : P.info? t = some i) (hz : i.zero = some z) (w : World) : (zeroValue t).run P w = .ok z w := by
  unfold zeroValue; rw [run_ok (run_info h w)]; simp [hz]
theorem run_isAgg {t : TypeId} {d : TypeDesc} (h : P.underlying t = some d) (w : World) : (isAgg t).run P w = .ok (aggD d) w := by
  unfold isAgg; rw [run_ok (run_underlying h w)]; cases d <;> rfl
end
end Go.E
/- Operations that only reckon: what the evaluator tells of them is what the model does. -/
set_option linter.unusedSimpArgs false
set_option linter.unusedVariables false
namespace Go.E
open Go

section
variable {P : Program} {L : Lk} {β : Emb} {ρ : Operand → Option Value} {ρ' : Operand → Value}

/-- Parts with their numbers. -/
def PRs [Sym] (β : Emb) (l l' : List (Nat × Value)) : Prop := l.length = l'.length ∧ ∀ (i : Nat) x y, l[i]? = some x → l'[i]? = some y → x.1 = y.1 ∧ VR β x.2 y.2
theorem PRs.of_cons [Sym] {x : Nat × Value} {l l' : List (Nat × Value)} (h : PRs β (x :: l) l') : ∃ y r, l' = y :: r ∧ x.1 = y.1 ∧ VR β x.2 y.2 ∧ PRs β l r := by
  cases l' with
  | nil => simp [PRs] at h
  | cons y r =>
    have := h.2 0 x y rfl rfl
    exact ⟨y, r, rfl, this.1, this.2, by simpa using h.1, fun i a b ha hb => h.2 (i + 1) a b (by simpa using ha) (by simpa using hb)⟩
theorem PRs.of_nil [Sym] {l' : List (Nat × Value)} (h : PRs β [] l') : l' = [] := by
  cases l' with
  | nil => rfl
  | cons y r => simp [PRs] at h

theorem mapM_rho [Sym] (hρ : ∀ x v, ρ x = some v → VR β v (ρ' x)) : ∀ (xs : List Operand) (vs : List Value), xs.mapM ρ = some vs → VRs β vs (xs.map ρ')
  | [], vs, h => by simp at h; subst h; exact VRs.nil
  | x :: xs, vs, h => by
    simp only [List.mapM_cons, Option.bind_eq_bind, Option.pure_def, Option.bind_eq_some_iff] at h
    obtain ⟨v, hv, r, hr, h⟩ := h
    cases h
    exact VRs.cons (hρ x v hv) (mapM_rho hρ xs r hr)
theorem mapM_parts [Sym] (hρ : ∀ x v, ρ x = some v → VR β v (ρ' x)) : ∀ (xs : List (Nat × Operand)) (vs : List (Nat × Value)),
    (xs.mapM fun p => (ρ p.2).map fun v => (p.1, v)) = some vs → PRs β vs (xs.map fun p => (p.1, ρ' p.2))
  | [], vs, h => by simp at h; subst h; exact ⟨rfl, fun i x y h => by simp at h⟩
  | x :: xs, vs, h => by
    simp only [List.mapM_cons, Option.bind_eq_bind, Option.pure_def, Option.bind_eq_some_iff, Option.map_eq_some_iff] at h
    obtain ⟨v, ⟨u, hu, rfl⟩, r, hr, h⟩ := h
    cases h
    have := mapM_parts hρ xs r hr
    refine ⟨by simp [this.1], fun i a b ha hb => ?_⟩
    cases i with
    | zero => simp at ha hb; subst ha; subst hb; exact ⟨rfl, hρ _ _ hu⟩
    | succ i => simp at ha hb; exact this.2 i a b ha (by simpa using hb)

theorem fold_zip [Sym] (off : Nat) : ∀ (l l' : List Value) (k : Nat) (cs cs' : Array Value), VRs β l l' → VRs β cs.toList cs'.toList →
    VRs β ((l.zipIdx k).foldl (fun cs (x : Value × Nat) => cs.setIfInBounds (off + x.2) x.1) cs).toList
      ((l'.zipIdx k).foldl (fun cs (x : Value × Nat) => cs.setIfInBounds (off + x.2) x.1) cs').toList
  | [], l', k, cs, cs', h, hc => by rw [h.of_nil]; simpa using hc
  | x :: l, l', k, cs, cs', h, hc => by
    obtain ⟨y, r, rfl, hx, hr⟩ := h.of_cons
    simp only [List.zipIdx_cons, List.foldl_cons]
    refine fold_zip off l r (k + 1) _ _ hr ?_
    refine ⟨by simpa using hc.1, fun i a b ha hb => ?_⟩
    simp only [Array.toList_setIfInBounds] at ha hb
    rw [List.getElem?_set] at ha hb
    have hlen : cs.toList.length = cs'.toList.length := hc.1
    split at ha
    · rename_i hi
      simp only [hi, if_true] at hb
      split at ha
      · rename_i h1
        rw [if_pos (by rw [← hlen, ← hi]; exact h1)] at hb
        cases ha; cases hb; exact hx
      · cases ha
    · rename_i hi
      simp only [hi, if_false] at hb
      exact hc.2 i a b ha hb

theorem fill_rel [Sym] {place : Nat → Option (Nat × Nat)} : ∀ (ps ps' : List (Nat × Value)) (cs cs' r : Array Value), PRs β ps ps' → VRs β cs.toList cs'.toList →
    Instr.fill place cs ps = some r → ∃ r', Instr.fill place cs' ps' = some r' ∧ VRs β r.toList r'.toList
  | [], ps', cs, cs', r, hp, hc, h => by
    rw [hp.of_nil]
    simp only [Instr.fill] at h ⊢
    cases h
    exact ⟨_, rfl, hc⟩
  | x :: ps, ps', cs, cs', r, hp, hc, h => by
    obtain ⟨y, q, rfl, h1, h2, hq⟩ := hp.of_cons
    obtain ⟨i, v⟩ := x
    obtain ⟨i', v'⟩ := y
    simp only at h1 h2
    subst h1
    simp only [Instr.fill] at h ⊢
    cases hpl : place i with
    | none => rw [hpl] at h; cases h
    | some os =>
      obtain ⟨off, size⟩ := os
      rw [hpl] at h
      simp only at h ⊢
      have hcells := h2.cells
      have e1 : v'.cells.size = v.cells.size := by simpa using hcells.1.symm
      have e2 : cs'.size = cs.size := by simpa using hc.1.symm
      rw [e1, e2]
      split at h
      · cases h
      · rename_i hb
        rw [if_neg hb]
        refine fill_rel ps q _ _ r hq ?_ h
        have e3 : ∀ (u : Value) (c : Array Value), (u.cells.zipIdx.foldl (fun cs (x : Value × Nat) => cs.setIfInBounds (off + x.2) x.1) c) =
            (u.cells.toList.zipIdx 0).foldl (fun cs (x : Value × Nat) => cs.setIfInBounds (off + x.2) x.1) c := by
          intro u c
          rw [← Array.foldl_toList, Array.toList_zipIdx]
        have := fold_zip (β := β) off _ _ 0 cs cs' hcells hc
        rw [← e3, ← e3] at this
        exact this

theorem mapM_places [Sym] (hL : L.Ok P) : ∀ (fs : List Field) (pl : List (Nat × Nat)), (fs.mapM fun f => (L.info f.type).map fun i => (f.offset, i.size)) = some pl →
    (fs.mapM fun f => (P.info? f.type).map fun i => (f.offset, i.size)) = some pl
  | [], pl, h => h
  | f :: fs, pl, h => by
    simp only [List.mapM_cons, Option.bind_eq_bind, Option.pure_def, Option.bind_eq_some_iff, Option.map_eq_some_iff] at h ⊢
    obtain ⟨v, ⟨u, hu, rfl⟩, r, hr, h⟩ := h
    exact ⟨_, ⟨u, hL.info _ _ hu, rfl⟩, r, mapM_places hL fs r hr, h⟩

theorem built_rel [Sym] (hL : L.Ok P) {t : TypeId} {ps ps' : List (Nat × Value)} {cs : Array Value} (hp : PRs β ps ps') (h : builtE L t ps = some cs) :
    ∃ cs', P.built t ps' = some cs' ∧ VRs β cs.toList cs'.toList := by
  unfold builtE at h
  simp only [Option.bind_eq_some_iff] at h
  obtain ⟨i, hi, zero, hz, h⟩ := h
  cases hf : flat2 zero with
  | false => simp [hf] at h
  | true =>
    simp only [hf, cond_true] at h
    have hzz : VRs β zero.cells.toList zero.cells.toList := (flat2_refl hf).cells
    unfold Program.built
    rw [hL.info _ _ hi]
    split at h
    · rename_i fields hu
      rw [hL.und _ _ hu]
      simp only [Option.bind_eq_some_iff] at h
      obtain ⟨pl, hpl, h⟩ := h
      simp only [hz, mapM_places hL _ _ hpl]
      exact fill_rel _ _ _ _ _ hp hzz h
    · rename_i n e hu
      rw [hL.und _ _ hu]
      simp only [Option.bind_eq_some_iff] at h
      obtain ⟨ie, hie, h⟩ := h
      simp only [hz, hL.info _ _ hie]
      exact fill_rel _ _ _ _ _ hp hzz h
    · cases h

theorem asNat_some {v : Value} {n : Nat} (h : asNat? v = some n) : ∃ k m, v = .int k m ∧ 0 ≤ m ∧ m.toNat = n := by
  unfold asNat? at h
  split at h
  · rename_i k m
    split at h
    · rename_i hm; cases h; exact ⟨k, m, rfl, hm, rfl⟩
    · cases h
  · cases h
theorem addr_some {v : Value} {i k : Nat} (h : addr? v = some (i, k)) : v = .pointer (some ⟨i, k, none⟩) := by
  unfold addr? at h
  split at h
  · cases h; rfl
  · cases h
theorem addr_rel [Sym] {v v' : Value} {i k : Nat} (h : addr? v = some (i, k)) (r : VR β v v') : ∃ p, β i = some p ∧ v' = .pointer (some ⟨p.b, p.o + k, none⟩) := by
  rw [addr_some h] at r
  cases r with
  | ptr hp => exact ⟨_, hp, rfl⟩
theorem size_some {t : TypeId} {n : Nat} (h : L.size t = some n) : ∃ i, L.info t = some i ∧ i.size = n := by
  simpa [Lk.size, Option.map_eq_some_iff] using h

theorem add_addr (p : Pl) (k n : Nat) : Addr.add ⟨p.b, p.o + k, none⟩ n = ⟨p.b, p.o + (k + n), none⟩ := by
  unfold Addr.add
  split
  · rename_i h; subst h; rfl
  · simp; omega

theorem part_rel [Sym] (hL : L.Ok P) {t : TypeId} {cs cs' : Array Value} {off : Nat} {v : Value} (hc : VRs β cs.toList cs'.toList) (h : partE L t cs off = some v) :
    ∃ v', VR β v v' ∧ ∀ w, (part t cs' off).run P w = .ok v' w := by
  unfold partE at h
  have hext : ∀ n, VR β (.agg (cs.extract off (off + n))) (.agg (cs'.extract off (off + n))) := fun n => VRs.agg (by
    simp only [Array.toList_extract, List.extract_eq_take_drop]
    exact (hc.drop _).take _)
  split at h
  · rename_i f hu
    simp only [Option.map_eq_some_iff] at h
    obtain ⟨n, hn, rfl⟩ := h
    obtain ⟨i, hi, rfl⟩ := size_some hn
    refine ⟨_, hext _, fun w => ?_⟩
    unfold part
    simp [run_isAgg (hL.und _ _ hu), run_size (hL.info _ _ hi), aggD]
  · rename_i n e hu
    simp only [Option.map_eq_some_iff] at h
    obtain ⟨n, hn, rfl⟩ := h
    obtain ⟨i, hi, rfl⟩ := size_some hn
    refine ⟨_, hext _, fun w => ?_⟩
    unfold part
    simp [run_isAgg (hL.und _ _ hu), run_size (hL.info _ _ hi), aggD]
  · rename_i d h1 h2 hu
    obtain ⟨v', hv', hr⟩ := hc.get (by simpa using h)
    refine ⟨v', hr, fun w => ?_⟩
    unfold part
    rw [Sem.run_bind, run_isAgg (hL.und _ _ hu), aggD_no h1 h2]
    have : cs'[off]? = some v' := by simpa using hv'
    simp [this]
  · cases h
end
end Go.E
/- Operations that only reckon: sound. -/
set_option linter.unusedSimpArgs false
set_option linter.unusedVariables false
namespace Go.E
open Go

section
variable {P : Program} {L : Lk} {β : Emb} {ρ : Operand → Option Value} {ρ' : Operand → Value}

def PureOk [Sym] (P : Program) (β : Emb) (s : Sem Next) (v : Value) : Prop := ∃ v', VR β v v' ∧ ∀ w, s.run P w = .ok (.value v') w

theorem PureOk.of [Sym] {s : Sem Value} {v v' : Value} (h : VR β v v') (hr : ∀ w, s.run P w = .ok v' w) : PureOk P β (do pure (.value (← s))) v :=
  ⟨v', h, fun w => by simp [hr w]⟩
theorem PureOk.ret [Sym] {v v' : Value} (h : VR β v v') : PureOk P β (pure (.value v')) v := ⟨v', h, fun w => rfl⟩

theorem run_bound {v : Value} {n y : Nat} {code : BoundsCode} (h : asNat? v = some n) (hy : n ≤ y) (w : World) : (Instr.sliceBound v y code).run P w = .ok n w := by
  obtain ⟨k, m, rfl, h0, rfl⟩ := asNat_some h
  unfold Instr.sliceBound asIntOf
  have : 0 ≤ m ∧ m ≤ (y : Int) := ⟨h0, by omega⟩
  simp [this]

theorem run_bounds {n cap l h : Nat} {b : Bool} {lo hi : Option Value} (hs : sliceE n cap lo hi = some (l, h)) (w : World) :
    (Instr.sliceBounds b n cap lo hi none).run P w = .ok (l, h, cap) w ∧ l ≤ h ∧ h ≤ cap := by
  unfold sliceE at hs
  simp only [Option.bind_eq_some_iff] at hs
  obtain ⟨h1, hh, l1, hl, hs⟩ := hs
  cases hb : (Nat.ble h1 cap && Nat.ble l1 h1) with
  | false => simp [hb] at hs
  | true =>
    simp only [hb, cond_true, Option.some.injEq, Prod.mk.injEq] at hs
    obtain ⟨rfl, rfl⟩ := hs
    simp only [Bool.and_eq_true, Nat.ble_eq] at hb
    refine ⟨?_, hb.2, hb.1⟩
    unfold Instr.sliceBounds
    cases hi with
    | none =>
      simp only [Option.some.injEq] at hh
      subst hh
      cases lo with
      | none => simp only [Option.some.injEq] at hl; subst hl; simp
      | some v => simp at hl; simp [run_bound hl hb.2]
    | some u =>
      simp only at hh
      cases lo with
      | none => simp only [Option.some.injEq] at hl; subst hl; simp [run_bound hh hb.1]
      | some v => simp only at hl; simp [run_bound hh hb.1, run_bound hl hb.2]

theorem bounds_le {n cap l h : Nat} {lo hi : Option Value} (hs : sliceE n cap lo hi = some (l, h)) : l ≤ h ∧ h ≤ cap := by
  unfold sliceE at hs
  simp only [Option.bind_eq_some_iff] at hs
  obtain ⟨h1, hh, l1, hl, hs⟩ := hs
  cases hb : (Nat.ble h1 cap && Nat.ble l1 h1) with
  | false => simp [hb] at hs
  | true =>
    simp only [hb, cond_true, Option.some.injEq, Prod.mk.injEq] at hs
    obtain ⟨rfl, rfl⟩ := hs
    simp only [Bool.and_eq_true, Nat.ble_eq] at hb
    exact ⟨hb.2, hb.1⟩

theorem opt_rel [Sym] (hρ : ∀ x v, ρ x = some v → VR β v (ρ' x)) {lo : Option Operand} {r : Option Value}
    (h : (match lo with | some v => (ρ v).map some | none => some none) = some r) (hf : ∀ v n, r = some v → asNat? v = some n → True) :
    (r = none ∧ lo.map ρ' = none) ∨ ∃ v v', r = some v ∧ lo.map ρ' = some v' ∧ VR β v v' := by
  cases lo with
  | none => simp at h; exact .inl ⟨h.symm, rfl⟩
  | some x =>
    simp only [Option.map_eq_some_iff] at h
    obtain ⟨v, hv, rfl⟩ := h
    exact .inr ⟨v, ρ' x, rfl, rfl, hρ x v hv⟩

theorem asNat_rel [Sym] {v v' : Value} {n : Nat} (h : asNat? v = some n) (r : VR β v v') : v' = v := by
  obtain ⟨k, m, rfl, _⟩ := asNat_some h
  cases r; rfl

theorem sliceE_rel [Sym] (hρ : ∀ x v, ρ x = some v → VR β v (ρ' x)) {lo hi : Option Operand} {r s : Option Value} {n cap l h : Nat}
    (h1 : (match lo with | some v => (ρ v).map some | none => some none) = some r) (h2 : (match hi with | some v => (ρ v).map some | none => some none) = some s)
    (hs : sliceE n cap r s = some (l, h)) : sliceE n cap (lo.map ρ') (hi.map ρ') = some (l, h) := by
  have e1 : r = lo.map ρ' ∨ ∃ v, r = some v ∧ asNat? v = none := by
    rcases opt_rel hρ h1 (fun _ _ _ _ => trivial) with ⟨a, b⟩ | ⟨v, v', a, b, c⟩
    · exact .inl (a.trans b.symm)
    · cases hv : asNat? v with
      | none => exact .inr ⟨v, a, hv⟩
      | some n => rw [asNat_rel hv c] at b; exact .inl (a.trans b.symm)
  have e2 : s = hi.map ρ' ∨ ∃ v, s = some v ∧ asNat? v = none := by
    rcases opt_rel hρ h2 (fun _ _ _ _ => trivial) with ⟨a, b⟩ | ⟨v, v', a, b, c⟩
    · exact .inl (a.trans b.symm)
    · cases hv : asNat? v with
      | none => exact .inr ⟨v, a, hv⟩
      | some n => rw [asNat_rel hv c] at b; exact .inl (a.trans b.symm)
  rcases e2 with e2 | ⟨v, rfl, hv⟩
  · rcases e1 with e1 | ⟨v, rfl, hv⟩
    · rw [← e1, ← e2]; exact hs
    · unfold sliceE at hs
      simp [hv] at hs
  · unfold sliceE at hs
    simp [hv] at hs

theorem pureV_sound [Sym] {s : Sem Value} {v : Value} (h : pureV P s = some v) : VR β v v ∧ ∀ w, s.run P w = .ok v w := by
  unfold pureV at h
  simp only [Option.bind_eq_some_iff] at h
  obtain ⟨u, hu, h⟩ := h
  cases hf : flat3 u with
  | false => simp [hf] at h
  | true => simp [hf] at h; subst h; exact ⟨flat3_refl hf, runPure_run _ _ hu⟩

theorem eqNil_equal [Sym] (hL : L.Ok P) {t : TypeId} {d : TypeDesc} {a b a' b' : Value} {r : Bool} (hu : L.und t = some d) (h : eqNil d a b = some r)
    (ra : VR β a a') (rb : VR β b b') (w : World) : (Op.equal t a' b').run P w = .ok r w ∧
    ∀ op x y, (eqGuard op t x y a' b').run P w = .ok () w ∧ binOp .eql t a' b' = (do pure (.bool (← Op.equal t a' b'))) ∧ binOp .neq t a' b' = (do pure (.bool (!(← Op.equal t a' b')))) := by
  have hu' := hL.und _ _ hu
  unfold eqNil at h
  split at h <;> (try (cases h; done)) <;> split at h <;> (try (cases h; done)) <;> (rename_i f1 f2 f3; cases h) <;> cases ra <;> cases rb <;>
    refine ⟨?_, fun op x y => ⟨?_, rfl, rfl⟩⟩ <;>
    first
      | (show (Op.equalIn (9999 + 1) t _ _).run P w = _; rw [Op.equalIn, Sem.run_bind, run_underlying hu']; rfl)
      | (unfold eqGuard; cases op <;> rfl)

theorem run_builtin {o : Oper} {b : Builtin} {args : Array Operand} {argTypes : Array TypeId} (ho : o.op = .call { callee := .builtin b, args, argTypes }) (w : World) :
    (execOp ρ' o).run P w = (builtin b argTypes o.type (args.map fun | .const _ => true | _ => false) (args.map ρ')).run P w := by
  unfold execOp; simp only [ho]; rfl

theorem pure_sound [Sym] (hL : L.Ok P) (hρ : ∀ x v, ρ x = some v → VR β v (ρ' x)) {o : Oper} {v : Value} (h : pureE P L ρ o = some v) :
    PureOk P β (execOp ρ' o) v := by
  unfold pureE at h
  split at h
  case h_1 x ho => unfold execOp; simp only [ho]; exact .ret (hρ _ _ h)
  case h_2 x ho => unfold execOp; simp only [ho]; exact .ret (hρ _ _ h)
  case h_3 c a b ho =>
    simp only [Option.bind_eq_some_iff] at h
    obtain ⟨vc, hc, h⟩ := h
    have rc := hρ _ _ hc
    unfold execOp; simp only [ho]
    split at h
    · generalize hρc : ρ' c = vc' at rc; cases rc
      exact ⟨_, hρ _ _ h, fun w => by simp [hρc, asBool]⟩
    · generalize hρc : ρ' c = vc' at rc; cases rc
      exact ⟨_, hρ _ _ h, fun w => by simp [hρc, asBool]⟩
    · cases h
  case h_4 t parts ho =>
    simp only [Option.bind_eq_some_iff, Option.map_eq_some_iff] at h
    obtain ⟨ps, hps, cs, hcs, rfl⟩ := h
    obtain ⟨cs', hcs', hr⟩ := built_rel hL (mapM_parts hρ _ _ hps) hcs
    unfold execOp; simp only [ho]
    refine .of hr.agg fun w => run_build w t _ cs' ?_
    rw [← hcs']; simp
  case h_5 x ho =>
    simp only [Option.bind_eq_some_iff] at h
    obtain ⟨vx, hx, h⟩ := h
    have rx := hρ _ _ hx
    unfold execOp; simp only [ho]
    generalize hx' : ρ' x = vx' at rx
    split at h
    · cases h; cases rx with
      | ptr hp => exact .ret (.ptr hp)
    · cases h; cases rx with
      | func a b c d => exact .ret (.func a b c d)
    · cases h
  case h_6 op t x y yt ho =>
    simp only [Option.bind_eq_some_iff] at h
    obtain ⟨a, ha, b, hb, h⟩ := h
    have ra := hρ _ _ ha
    have rb := hρ _ _ hb
    unfold execOp; simp only [ho]
    cases hf : (flat2 a && flat2 b) with
    | true =>
      simp only [hf, cond_true] at h
      simp only [Bool.and_eq_true] at hf
      rw [flat2_eq hf.1 ra, flat2_eq hf.2 rb]
      exact .of (pureV_sound h).1 (pureV_sound (β := β) h).2
    | false =>
      simp only [hf, cond_false] at h
      split at h
      · rename_i r hr
        cases hs : (symOk a && symOk b) with
        | false => rw [hs] at h; cases h
        | true =>
          rw [hs] at h
          simp only [cond_true, Option.some.injEq] at h
          subst h
          simp only [Bool.and_eq_true] at hs
          rw [symOk_eq hs.1 ra, symOk_eq hs.2 rb]
          have h9 := hL.symOp _ _ _ _ _ hr x y
          exact .of (pureV_sound h9).1 (pureV_sound (β := β) h9).2
      simp only [Option.bind_eq_some_iff] at h
      obtain ⟨d, hd, r, hr, h⟩ := h
      generalize ρ' x = a' at *
      generalize ρ' y = b' at *
      split at h
      · cases h
        exact .of (.bool _) fun w => by
          obtain ⟨h1, h2⟩ := eqNil_equal hL hd hr ra rb w
          obtain ⟨h3, h4, h5⟩ := h2 .eql x y
          simp [h3, h4, h1]
      · cases h
        exact .of (.bool _) fun w => by
          obtain ⟨h1, h2⟩ := eqNil_equal hL hd hr ra rb w
          obtain ⟨h3, h4, h5⟩ := h2 .neq x y
          simp [h3, h5, h1]
      · cases h
  case h_7 op t x ho =>
    simp only [Option.bind_eq_some_iff] at h
    obtain ⟨a, ha, h⟩ := h
    have ra := hρ _ _ ha
    unfold execOp; simp only [ho]
    cases hf : flat1 a with
    | true =>
      simp only [hf, cond_true] at h
      rw [flat1_eq hf ra]
      exact .of (pureV_sound h).1 (pureV_sound (β := β) h).2
    | false => simp [hf] at h
  case h_8 s d x ho =>
    simp only [Option.bind_eq_some_iff] at h
    obtain ⟨a, ha, h⟩ := h
    have ra := hρ _ _ ha
    unfold execOp; simp only [ho]
    cases hf : flat1 a with
    | true =>
      simp only [hf, cond_true] at h
      rw [flat1_eq hf ra]
      exact .of (pureV_sound h).1 (pureV_sound (β := β) h).2
    | false => simp [hf] at h
  case h_9 t x lo hi ho =>
    simp only [Option.bind_eq_some_iff] at h
    obtain ⟨a, ha, lo1, hlo, hi1, hhi, h⟩ := h
    have ra := hρ _ _ ha
    unfold execOp; simp only [ho]
    generalize ρ' x = a' at *
    split at h
    · rename_i s
      split at h
      · rename_i hu
        simp only [Option.map_eq_some_iff] at h
        obtain ⟨⟨l, h'⟩, hs, rfl⟩ := h
        have hs' := sliceE_rel hρ hlo hhi hs
        cases ra
        refine .of (.string _) fun w => ?_
        simp [Instr.sliceAt, Instr.slice, run_underlying (hL.und _ _ hu), (run_bounds hs' w).1]
      · cases h
    · split at h
      · rename_i e hu
        simp only [Option.bind_eq_some_iff, Option.map_eq_some_iff] at h
        obtain ⟨z, hz, ⟨l, h'⟩, hs, rfl⟩ := h
        obtain ⟨ti, hti, rfl⟩ := size_some hz
        have hs' := sliceE_rel hρ hlo hhi hs
        cases ra
        refine .of .slice0 fun w => ?_
        have hb := (run_bounds (P := P) (b := true) hs' w)
        have h1 : l = 0 := by omega
        have h2 : h' = 0 := by omega
        subst h1; subst h2
        simp [Instr.sliceAt, Instr.slice, run_underlying (hL.und _ _ hu), hb.1, run_size (hL.info _ _ hti)]
      · cases h
    · rename_i i k
      split at h
      · rename_i n e hu
        simp only [Option.bind_eq_some_iff, Option.map_eq_some_iff] at h
        obtain ⟨z, hz, ⟨l, h'⟩, hs, rfl⟩ := h
        obtain ⟨ti, hti, rfl⟩ := size_some hz
        have hs' := sliceE_rel hρ hlo hhi hs
        have hle := bounds_le hs
        cases ra with
        | ptr hp =>
        rename_i p
        refine .of (v' := .slice (some (if n = l then ⟨p.b, p.o + k, none⟩ else ⟨p.b, p.o + (k + l * ti.size), none⟩)) (h' - l) (n - l)) ?_ fun w => ?_
        · by_cases hnl : n = l
          · simp only [hnl, if_true]
            exact .slice hp (by omega) (by omega) (.inr (by simp [hnl, beq_dec]; try omega)) (.inl rfl)
          · simp only [hnl, if_false]
            exact .slice hp (by omega) (by omega) (.inr (by simp [hnl, beq_dec]; try omega)) (.inl rfl)
        · simp [Instr.sliceAt, Instr.sureAddr, run_underlying (hL.und _ _ hu), (run_bounds (b := false) hs' w).1, run_size (hL.info _ _ hti), add_addr]
      · cases h
    · cases h
  case h_10 s x f ho =>
    simp only [Option.bind_eq_some_iff] at h
    obtain ⟨a, ha, ⟨i, k⟩, hik, h⟩ := h
    have ra := hρ _ _ ha
    unfold execOp; simp only [ho]
    generalize ρ' x = a' at *
    obtain ⟨p, hp, rfl⟩ := addr_rel hik ra
    split at h
    · rename_i fields hu
      simp only [Option.bind_eq_some_iff] at h
      obtain ⟨fd, hfd, z, hz, h⟩ := h
      obtain ⟨ti, hti, rfl⟩ := size_some hz
      cases hb : Nat.beq ti.size 0 with
      | true => simp [hb] at h
      | false =>
        simp only [hb, cond_false, Option.some.injEq] at h
        subst h
        refine .of (.ptr hp) fun w => ?_
        have hne : ti.size ≠ 0 := by rw [beq_dec] at hb; simpa using hb
        simp [Instr.fieldAt, Instr.sureAddr, run_underlying (hL.und _ _ hu), hfd, fieldPlace, run_size (hL.info _ _ hti), hne, add_addr]
    · cases h
  case h_11 t x ix ho =>
    simp only [Option.bind_eq_some_iff] at h
    obtain ⟨a, ha, vi, hvi, n, hn, h⟩ := h
    have ra := hρ _ _ ha
    have ri := hρ _ _ hvi
    unfold execOp; simp only [ho]
    rw [asNat_rel hn ri]
    obtain ⟨kk, m, rfl, h0, rfl⟩ := asNat_some hn
    generalize ρ' x = a' at *
    split at h
    · rename_i len e i k hu
      cases ra with
      | ptr hp =>
      cases hb : Nat.blt m.toNat len with
      | false => simp [hb] at h
      | true =>
        simp only [hb, cond_true, Option.map_eq_some_iff] at h
        obtain ⟨z, hz, rfl⟩ := h
        obtain ⟨ti, hti, rfl⟩ := size_some hz
        refine .of (.ptr hp) fun w => ?_
        have hlt : m < (len : Int) := by rw [Nat.blt_eq] at hb; omega
        simp [Instr.indexAt, asIntOf, Instr.sureAddr, run_underlying (hL.und _ _ hu), run_size (hL.info _ _ hti), h0, hlt, add_addr]
    · rename_i e i k len cap hu
      cases ra with
      | slice hp hl hc hk hs =>
      cases hb : Nat.blt m.toNat len with
      | false => simp [hb] at h
      | true =>
        simp only [hb, cond_true, Option.map_eq_some_iff] at h
        obtain ⟨z, hz, rfl⟩ := h
        obtain ⟨ti, hti, rfl⟩ := size_some hz
        refine .of (.ptr hp) fun w => ?_
        have hlt : m < (len : Int) := by rw [Nat.blt_eq] at hb; omega
        have hk' := hk.resolve_left (by omega)
        simp [Instr.indexAt, asIntOf, run_underlying (hL.und _ _ hu), run_size (hL.info _ _ hti), h0, hlt, hk', add_addr]
    · cases h
  case h_12 t x f ho =>
    simp only [Option.bind_eq_some_iff] at h
    obtain ⟨a, ha, h⟩ := h
    have ra := hρ _ _ ha
    unfold execOp; simp only [ho]
    generalize ρ' x = a' at *
    split at h
    · rename_i fields cs hu
      simp only [Option.bind_eq_some_iff] at h
      obtain ⟨fd, hfd, h⟩ := h
      cases ra with
      | agg h1 h2 =>
        obtain ⟨v', hr, hrun⟩ := part_rel hL (VRs.of_array h1 h2) h
        refine .of hr fun w => ?_
        simp [Instr.field, run_underlying (hL.und _ _ hu), hfd, asAgg, hrun]
    · cases h
  case h_13 t x ix ho =>
    simp only [Option.bind_eq_some_iff] at h
    obtain ⟨a, ha, vi, hvi, n, hn, h⟩ := h
    have ra := hρ _ _ ha
    have ri := hρ _ _ hvi
    unfold execOp; simp only [ho]
    rw [asNat_rel hn ri]
    obtain ⟨kk, m, rfl, h0, rfl⟩ := asNat_some hn
    generalize ρ' x = a' at *
    split at h
    · rename_i len e cs hu
      cases hb : Nat.blt m.toNat len with
      | false => simp [hb] at h
      | true =>
        simp only [hb, cond_true, Option.bind_eq_some_iff] at h
        obtain ⟨z, hz, h⟩ := h
        obtain ⟨ti, hti, rfl⟩ := size_some hz
        have hlt : m < (len : Int) := by rw [Nat.blt_eq] at hb; omega
        cases ra with
        | agg h1 h2 =>
          obtain ⟨v', hr, hrun⟩ := part_rel hL (VRs.of_array h1 h2) h
          refine .of hr fun w => ?_
          simp [Instr.index, asIntOf, run_underlying (hL.und _ _ hu), run_size (hL.info _ _ hti), h0, hlt, hrun]
    · rename_i s hu
      simp only [Option.map_eq_some_iff] at h
      obtain ⟨b, hb, rfl⟩ := h
      cases ra
      refine .of (.int _ _) fun w => ?_
      simp [Instr.index, asIntOf, run_underlying (hL.und _ _ hu), h0, hb]
    · cases h
  case h_14 t ix ho =>
    simp only [Option.bind_eq_some_iff] at h
    obtain ⟨a, ha, h⟩ := h
    have ra := hρ _ _ ha
    unfold execOp; simp only [ho]
    generalize ρ' t = a' at *
    split at h
    · cases ra with
      | tuple h1 h2 =>
        obtain ⟨y, hy, hr⟩ := (VRs.of_array h1 h2).get (i := ix) (by simpa using h)
        refine .of hr fun w => ?_
        have hy' := by simpa using hy
        simp [Instr.extract, hy']
    · cases h
  case h_15 t x ho =>
    simp only [Option.bind_eq_some_iff] at h
    obtain ⟨a, ha, h⟩ := h
    have ra := hρ _ _ ha
    unfold execOp; simp only [ho]
    split at h
    · cases h
    · cases h
    · rename_i d hni hu
      cases h
      refine .of (.iface ra) fun w => ?_
      unfold Instr.makeInterface
      rw [Sem.run_bind, run_underlying (hL.und _ _ hu)]
      cases d <;> first | rfl | exact absurd rfl (hni _)
  case h_16 f first captured ho =>
    simp only [Option.bind_eq_some_iff, Option.some.injEq] at h
    obtain ⟨xs, hxs, ys, hys, rfl⟩ := h
    have rx := mapM_rho hρ _ _ hxs
    have ry := mapM_rho hρ _ _ hys
    unfold execOp; simp only [ho]
    refine .ret (.func ?_ (fun i x y hx hy => rx.2 i x y (by simpa using hx) ?_) ?_ (fun i x y hx hy => ry.2 i x y (by simpa using hx) ?_))
    · simpa using rx.1
    · simpa using hy
    · simpa using ry.1
    · simpa using hy
  case h_17 b args argTypes ho =>
    simp only [Option.bind_eq_some_iff] at h
    obtain ⟨vs, hvs, h⟩ := h
    have hrs := mapM_rho hρ _ _ hvs
    have hex : ∀ (xs : List Value), args.toList.map ρ' = xs → args.map ρ' = xs.toArray := fun xs hx => by
      subst hx; apply Array.toList_inj.1; rw [Array.toList_map]
    have one : ∀ b x, vs = [x] → (cond (flat2 x) ((runPure P (builtin b argTypes o.type (args.map fun | .const _ => true | _ => false) #[x])).bind fun | .value v => cond (flat3 v) (some v) none | _ => none) none) = some v →
        ∃ v', VR β v v' ∧ ∀ w, (builtin b argTypes o.type (args.map fun | .const _ => true | _ => false) (args.map ρ')).run P w = .ok (.value v') w := by
      intro b x hx h9
      subst hx
      obtain ⟨y, r, hy, hr, hr2⟩ := hrs.of_cons
      have hr3 := hr2.of_nil
      subst hr3
      cases hf : flat2 x with
      | false => simp [hf] at h9
      | true =>
        simp only [hf, cond_true, Option.bind_eq_some_iff] at h9
        obtain ⟨nx, hnx, h9⟩ := h9
        rw [hex _ hy, flat2_eq hf hr]
        split at h9
        · rename_i u
          cases hg : flat3 u with
          | false => simp [hg] at h9
          | true => simp [hg] at h9; subst h9; exact ⟨_, flat3_refl hg, fun w => runPure_run _ _ hnx w⟩
        · cases h9
    have two : ∀ x y, vs = [x, y] → ∃ x' y', args.map ρ' = #[x', y'] ∧ VR β x x' ∧ VR β y y' := by
      intro x y hx
      subst hx
      obtain ⟨y1, r, hy, hr, hr2⟩ := hrs.of_cons
      obtain ⟨y2, r', rfl, hr', hr3⟩ := hr2.of_cons
      have hr4 := hr3.of_nil
      subst hr4
      exact ⟨y1, y2, hex _ hy, hr, hr'⟩
    unfold PureOk
    simp only [run_builtin ho]
    split at h
    · obtain ⟨y, r, hy, hr, hr2⟩ := hrs.of_cons
      have hr3 := hr2.of_nil
      subst hr3
      split at h
      · rename_i hu
        simp only [Option.bind_eq_some_iff] at hu
        obtain ⟨t0, ht0, hu⟩ := hu
        obtain ⟨e1, s, e2, e3⟩ := hL.symLen _ _ h
        refine ⟨_, symOk_refl e1, fun w => ?_⟩
        rw [hex _ hy, e3]
        cases hr
        rw [e2]
        simp [builtin, Builtin.len_, ht0, run_underlying (hL.und _ _ hu)] <;> rfl
      · cases h
    · obtain ⟨y, r, hy, hr, hr2⟩ := hrs.of_cons
      have hr3 := hr2.of_nil
      subst hr3
      split at h
      · rename_i e hu
        cases h
        simp only [Option.bind_eq_some_iff] at hu
        obtain ⟨t0, ht0, hu⟩ := hu
        refine ⟨_, .int _ _, fun w => ?_⟩
        rw [hex _ hy]
        cases hr <;> simp [builtin, Builtin.len_, ht0, run_underlying (hL.und _ _ hu)] <;> rfl
      · cases h
    · exact one _ _ rfl h
    · exact one _ _ rfl h
    · exact one _ _ rfl h
    · rename_i k x k' y
      split at h
      · rename_i hk
        cases h
        obtain ⟨x', y', he, h1, h2⟩ := two _ _ rfl
        cases h1; cases h2
        refine ⟨_, .int _ _, fun w => ?_⟩
        rw [he]
        rfl
      · cases h
    · rename_i k x k' y
      split at h
      · rename_i hk
        cases h
        obtain ⟨x', y', he, h1, h2⟩ := two _ _ rfl
        cases h1; cases h2
        refine ⟨_, .int _ _, fun w => ?_⟩
        rw [he]
        rfl
      · cases h
    · cases h
  case h_18 => cases h
end
end Go.E
/- Operations that lay a block, and operations that read one: sound. -/
set_option linter.unusedSimpArgs false
set_option linter.unusedVariables false
namespace Go.E
open Go

section
variable {P : Program} {L : Lk} {β : Emb} {ρ : Operand → Option Value} {ρ' : Operand → Value}

theorem run_new {α : Type} (o : Obj) (k : Nat → Sem α) (w : World) : (newObj o >>= k).run P w = (k w.heap.size).run P (w.alloc o) := rfl
theorem run_newRow (e : TypeId) (c : Array Value) (w : World) : (newRow e c).run P w = .ok ⟨w.heap.size, 0, none⟩ (w.alloc (.cells c e)) := rfl

def AllocOk [Sym] (P : Program) (β : Emb) (s : Sem Next) (ob : AObj) (vf : Nat → Value) : Prop :=
  ∀ w, ∃ obj d s' z v', s.run P w = .ok (.value v') { w with heap := w.heap.push obj, drawn := d } ∧
    ∀ β' n, (∀ i p, β i = some p → β' i = some p) → β' n = some ⟨w.heap.size, 0, s', z⟩ → OR β' ⟨w.heap.size, 0, s', z⟩ obj ob ∧ VR β' (vf n) v'

theorem OR_new [Sym] {β' : Emb} {b z : Nat} {c : List Value} {arr : Array Value} {T : TypeId} {fr : Nat × Nat} (h : VRs β' c (arr.toList.take c.length)) (hl : c.length ≤ arr.size)
    (hf : ∀ k, k < arr.size → ¬ (fr.1 ≤ k ∧ k < fr.2)) : OR β' ⟨b, 0, arr.size, z⟩ (.cells arr T fr) (.cells c z) := by
  refine ⟨arr, T, fr, rfl, rfl, rfl, by simpa using hl, hf, fun j v hv => ?_⟩
  obtain ⟨v', h1, h2⟩ := h.get hv
  rw [List.getElem?_take] at h1
  split at h1
  · exact ⟨v', by simpa using h1, h2⟩
  · cases h1
theorem OR_new_all [Sym] {β' : Emb} {b z : Nat} {c : List Value} {arr : Array Value} {T : TypeId} {fr : Nat × Nat} (h : VRs β' c arr.toList)
    (hf : ∀ k, k < arr.size → ¬ (fr.1 ≤ k ∧ k < fr.2)) : OR β' ⟨b, 0, arr.size, z⟩ (.cells arr T fr) (.cells c z) := by
  have hl : c.length = arr.size := by simpa using h.1
  refine OR_new ?_ (by omega) hf
  rw [hl, List.take_of_length_le (by simp)]
  exact h

theorem VRs.flat [Sym] {p : Value → Bool} (hp : ∀ v, p v = true → VR β v v) {l : List Value} (h : ∀ v ∈ l, p v = true) : VRs β l l :=
  ⟨rfl, fun i x y hx hy => by rw [hx] at hy; cases hy; exact hp x (h x (List.mem_of_getElem? hx))⟩

theorem zero_cells [Sym] {z : Value} (h : flat2 z = true) (n : Nat) (hs : n = 0 ∨ 0 < z.cells.size) : VRs β ((Array.range n).map (z.cells[· % z.cells.size]!)).toList ((Array.range n).map (z.cells[· % z.cells.size]!)).toList := by
  refine VRs.flat (p := flat1) (fun v => flat1_refl) fun v hv => ?_
  simp only [Array.toList_map, Array.toList_range, List.mem_map, List.mem_range] at hv
  obtain ⟨j, hj, rfl⟩ := hv
  have hpos : 0 < z.cells.size := by omega
  have hlt : j % z.cells.size < z.cells.size := Nat.mod_lt _ hpos
  rw [getElem!_pos z.cells _ hlt]
  have hall : z.cells.toList.all flat1 = true := by
    unfold flat2 at h
    split at h
    · exact h
    · rename_i hne
      cases z <;> first | (simp [Value.cells]; exact h) | exact absurd rfl (hne _)
  exact List.all_eq_true.1 hall _ (by simp)

theorem alloc_sound [Sym] (hL : L.Ok P) (hρ : ∀ x v, ρ x = some v → VR β v (ρ' x)) {o : Oper} {ob : AObj} {vf : Nat → Value} (h : allocE L ρ o = some (ob, vf)) :
    AllocOk P β (execOp ρ' o) ob vf := by
  unfold allocE at h
  split at h
  case h_1 t ho =>
    simp only [Option.bind_eq_some_iff] at h
    obtain ⟨i, hi, z, hz, h⟩ := h
    cases hf : flat2 z with
    | false => simp [hf] at h
    | true =>
      simp only [hf, cond_true, Option.some.injEq, Prod.mk.injEq] at h
      obtain ⟨rfl, rfl⟩ := h
      unfold execOp; simp only [ho]
      intro w
      refine ⟨.cells z.cells t, w.drawn, z.cells.size, 0, .pointer (some ⟨w.heap.size, 0, none⟩), ?_, fun β' n hb hn => ⟨?_, ?_⟩⟩
      · simp [Instr.alloc, run_zero (hL.info _ _ hi) hz, newVar, run_newRow]; try rfl
      · exact OR_new_all (flat2_refl hf).cells (by simp)
      · exact .ptr (p := ⟨w.heap.size, 0, z.cells.size, 0⟩) (k := 0) hn
  case h_2 t x ho =>
    simp only [Option.map_eq_some_iff, Prod.mk.injEq] at h
    obtain ⟨v, hv, rfl, rfl⟩ := h
    have rv := hρ _ _ hv
    unfold execOp; simp only [ho]
    intro w
    refine ⟨.cells (ρ' x).cells t, w.drawn, (ρ' x).cells.size, 0, .pointer (some ⟨w.heap.size, 0, none⟩), ?_, fun β' n hb hn => ⟨?_, ?_⟩⟩
    · simp [Instr.box, newVar, run_newRow]; try rfl
    · exact OR_new_all (rv.cells.mono hb) (by simp)
    · exact .ptr (p := ⟨w.heap.size, 0, (ρ' x).cells.size, 0⟩) (k := 0) hn
  case h_3 t len parts ho =>
    simp only [Option.bind_eq_some_iff] at h
    obtain ⟨ps, hps, h⟩ := h
    have hpr := mapM_parts hρ _ _ hps
    split at h
    · rename_i e hu
      simp only [Option.bind_eq_some_iff] at h
      obtain ⟨i, hi, z, hz, h⟩ := h
      cases hc : (flat2 z && Nat.ble (len * i.size) (2 ^ 24) && Nat.beq z.cells.size i.size && Nat.blt 0 i.size) with
      | false => rw [hc] at h; cases h
      | true =>
        rw [hc] at h
        simp only [cond_true, Option.map_eq_some_iff, Prod.mk.injEq] at h
        obtain ⟨cells, hcells, rfl, rfl⟩ := h
        simp only [Bool.and_eq_true, Nat.ble_eq, beq_dec, decide_eq_true_eq, Nat.blt_eq] at hc
        obtain ⟨⟨⟨hf, hle⟩, heq⟩, hpos⟩ := hc
        obtain ⟨cells', hcells', hr⟩ := fill_rel ps (parts.toList.map fun p => (p.1, ρ' p.2)) _ _ _ hpr (zero_cells (β := β) hf (len * i.size) (.inr (by omega))) hcells
        have hsz : ∀ (pl : Nat → Option (Nat × Nat)) (qs : List (Nat × Value)) (c r : Array Value), Instr.fill pl c qs = some r → r.size = c.size := by
          intro pl qs
          induction qs with
          | nil => intro c r h; simp [Instr.fill] at h; subst h; rfl
          | cons q qs ih =>
            intro c r h
            obtain ⟨a, b⟩ := q
            simp only [Instr.fill] at h
            split at h
            · cases h
            · split at h
              · cases h
              · have := ih _ _ h
                rw [this]
                have hfold : ∀ (l : List (Value × Nat)) (c : Array Value) (off : Nat), (l.foldl (fun cs (x : Value × Nat) => cs.setIfInBounds (off + x.2) x.1) c).size = c.size := by
                  intro l
                  induction l with
                  | nil => intro c off; rfl
                  | cons x l ih => intro c off; simp only [List.foldl_cons]; rw [ih]; simp
                rename_i off size _ _
                have e3 : (b.cells.zipIdx.foldl (fun cs (x : Value × Nat) => cs.setIfInBounds (off + x.2) x.1) c) =
                    (b.cells.toList.zipIdx 0).foldl (fun cs (x : Value × Nat) => cs.setIfInBounds (off + x.2) x.1) c := by
                  rw [← Array.foldl_toList, Array.toList_zipIdx]
                exact (congrArg Array.size e3).trans (hfold _ _ _)
        unfold execOp; simp only [ho]
        intro w
        refine ⟨.cells cells' e, w.drawn, cells'.size, i.size, .slice (some ⟨w.heap.size, 0, none⟩) len len, ?_, fun β' n hb hn => ⟨?_, ?_⟩⟩
        · have hne : ¬ (len * i.size > 2 ^ 24) := by omega
          have hpl : (parts.map fun (x : Nat × Operand) => (x.1, ρ' x.2)).toList = parts.toList.map fun p => (p.1, ρ' p.2) := by simp
          unfold Instr.buildSlice
          simp only [Sem.run_bind, run_underlying (hL.und _ _ hu), run_size (hL.info _ _ hi), Result.andThen_ok, if_neg hne]
          by_cases h0 : len * i.size = 0
          · simp only [h0, if_true, Sem.run_bind, Sem.run_pure, Result.andThen_ok]
            have hrng : ∀ z : Array Value, (Array.range 0).map (fun x => z[x % z.size]!) = #[] := fun z => by
              apply Array.toList_inj.1; simp
            have hcc : (Instr.fill (fun j => some (j * i.size, i.size)) #[] (parts.map fun (x : Nat × Operand) => (x.1, ρ' x.2)).toList) = some cells' := by
              rw [hpl, ← hcells', h0, hrng]
            rw [hrng]
            simp only [hcc]
            simp [run_newRow]; try rfl
          · simp only [h0, if_false, Sem.run_bind, run_zero (hL.info _ _ hi) hz, Sem.run_pure, Result.andThen_ok]
            rw [hpl]
            simp only [hcells']
            simp [run_newRow]; try rfl
        · exact OR_new_all (hr.mono hb) (by simp)
        · refine .slice (p := ⟨w.heap.size, 0, cells'.size, i.size⟩) hn (Nat.le_refl _) (Nat.le_refl _) (.inr rfl) (.inl rfl)
    · cases h
  case h_4 t len cap ho =>
    simp only [Option.bind_eq_some_iff] at h
    obtain ⟨vl, hvl, vc, hvc, l, hl, c, hc, h⟩ := h
    have r1 := hρ _ _ hvl
    have r2 := hρ _ _ hvc
    split at h
    · rename_i e hu
      simp only [Option.bind_eq_some_iff] at h
      obtain ⟨i, hi, z, hz, h⟩ := h
      cases hcd : (flat2 z && Nat.ble l c && Nat.ble c (2 ^ 40) && Nat.ble (c * i.bytes) (2 ^ 46) && Nat.beq z.cells.size i.size && Nat.blt 0 i.size) with
      | false => rw [hcd] at h; cases h
      | true =>
        rw [hcd] at h
        simp only [cond_true, Option.some.injEq, Prod.mk.injEq] at h
        obtain ⟨rfl, rfl⟩ := h
        simp only [Bool.and_eq_true, Nat.ble_eq, beq_dec, decide_eq_true_eq, Nat.blt_eq] at hcd
        obtain ⟨⟨⟨⟨⟨hf, hlc⟩, hc40⟩, hby⟩, heq⟩, hpos⟩ := hcd
        unfold execOp; simp only [ho]
        rw [asNat_rel hl r1, asNat_rel hc r2]
        obtain ⟨kl, ml, rfl, h0, rfl⟩ := asNat_some hl
        obtain ⟨kc, mc, rfl, h0c, rfl⟩ := asNat_some hc
        intro w
        have hrun := run_make (P := P) w t e i z (hL.und _ _ hu) (hL.info _ _ hi) hz kl kc ml mc h0 (by omega) (by
          have : ((mc.toNat * i.bytes : Nat) : Int) ≤ ((2 ^ 46 : Nat) : Int) := Int.ofNat_le.2 hby
          rw [Int.natCast_mul, Int.toNat_of_nonneg h0c, Int.mul_comm] at this
          omega) (by omega)
        refine ⟨.cells (madeCells z.cells (mc.toNat * i.size)) e, w.drawn, (madeCells z.cells (mc.toNat * i.size)).size, i.size, .slice (some ⟨w.heap.size, 0, none⟩) ml.toNat mc.toNat, ?_, fun β' n hb hn => ⟨?_, ?_⟩⟩
        · simp [hrun]; try rfl
        · refine OR_new_all ?_ (by simp)
          exact zero_cells hf _ (.inr (by omega))
        · exact .slice (p := ⟨w.heap.size, 0, _, i.size⟩) hn (by omega) (Nat.le_refl _) (.inr rfl) (.inl rfl)
    · cases h
  case h_5 src dst x ho =>
    simp only [Option.bind_eq_some_iff] at h
    obtain ⟨v, hv, h⟩ := h
    have rv := hρ _ _ hv
    split at h
    · rename_i e s hs hd
      split at h
      · rename_i he
        simp only [Option.some.injEq, Prod.mk.injEq] at h
        obtain ⟨rfl, rfl⟩ := h
        unfold execOp; simp only [ho]
        generalize ρ' x = v' at *
        cases rv
        intro w
        have hrun := run_bytes_of_string (P := P) w src dst e s (hL.und _ _ hs) (hL.und _ _ hd) (hL.und _ _ he)
        have hcap : s.size ≤ grownCap w s.size 0 e := Nat.le_add_right _ _
        have hsz : (bytesRow s (grownCap w s.size 0 e)).size = grownCap w s.size 0 e := by
          unfold bytesRow
          have : s.data.size = s.size := rfl
          simp [this]; omega
        refine ⟨.cells (bytesRow s (grownCap w s.size 0 e)) e ((bytesRow s (grownCap w s.size 0 e)).size, (bytesRow s (grownCap w s.size 0 e)).size + 1), w.drawn + 1, grownCap w s.size 0 e, 1,
          .slice (some ⟨w.heap.size, 0, none⟩) s.size (grownCap w s.size 0 e), ?_, fun β' n hb hn => ⟨?_, ?_⟩⟩
        · simp [hrun]; try rfl
        · have hor := OR_new (β' := β') (b := w.heap.size) (z := 1) (c := s.data.toList.map fun b => Value.int .u8 b.toNat) (arr := bytesRow s (grownCap w s.size 0 e)) (T := e)
            (fr := (grownCap w s.size 0 e, grownCap w s.size 0 e + 1)) ?_ ?_ ?_
          · rw [hsz] at hor; rw [hsz]; exact hor
          · unfold bytesRow
            simp only [Array.toList_append, Array.toList_map, List.length_map]
            rw [List.take_append_of_le_length (by simp), List.take_of_length_le (by simp)]
            refine VRs.flat (p := flat1) (fun v => flat1_refl) fun v hv => ?_
            simp only [List.mem_map] at hv
            obtain ⟨b, hb, rfl⟩ := hv
            rfl
          · rw [hsz]
            have : s.data.size = s.size := rfl
            simp [this]; omega
          · rw [hsz]; intro k hk; simp only; omega
        · exact .slice (p := ⟨w.heap.size, 0, _, 1⟩) hn (Nat.le_refl _) hcap (.inr rfl) (.inr ⟨by simp, by simp⟩)
      · cases h
    · cases h
  case h_6 t x ho =>
    simp only [Option.bind_eq_some_iff] at h
    obtain ⟨v, hv, h⟩ := h
    have rv := hρ _ _ hv
    split at h
    · rename_i s hu
      simp only [Option.some.injEq, Prod.mk.injEq] at h
      obtain ⟨rfl, rfl⟩ := h
      unfold execOp; simp only [ho]
      generalize ρ' x = v' at *
      cases rv
      intro w
      refine ⟨.stringIter s 0, w.drawn, 0, 0, .pointer (some ⟨w.heap.size, 0, none⟩), ?_, fun β' n hb hn => ⟨⟨rfl, rfl⟩, .ptr (p := ⟨w.heap.size, 0, 0, 0⟩) (k := 0) hn⟩⟩
      simp [Instr.range, run_underlying (hL.und _ _ hu)]
      try rfl
    · cases h
  case h_7 t ho =>
    simp only [Option.some.injEq, Prod.mk.injEq] at h
    obtain ⟨rfl, rfl⟩ := h
    unfold execOp; simp only [ho]
    intro w
    exact ⟨.map #[] 0, w.drawn, 0, 0, .map (some w.heap.size), rfl, fun β' n hb hn => ⟨⟨rfl, #[], 0, rfl, rfl, fun j k v hj => by simp at hj⟩, .map (p := ⟨w.heap.size, 0, 0, 0⟩) hn⟩⟩
  case h_8 => cases h

/-! ### Maps -/
theorem eqT_iff (a b : ByteArray) : eqT a b = true ↔ a = b := by
  unfold eqT
  rw [decide_eq_true_iff]
  constructor
  · intro h
    cases a with
    | mk d => cases b with
      | mk d' =>
        have : d = d' := Array.toList_inj.1 h
        rw [this]
  · rintro rfl; rfl
theorem findM_rel [Sym] {β : Emb} (k : ByteArray) : ∀ (l : List (ByteArray × Value)) (es : List MapEntry), es.length = l.length →
    (∀ (j : Nat) k v, l[j]? = some (k, v) → ∃ e, es[j]? = some e ∧ e.key = .string k ∧ VR β v e.val) →
    (findM k l = none ∧ (∀ x ∈ es, x.key ≠ .string k) ∧ ∀ v, setM k v l = l ++ [(k, v)]) ∨
    ∃ (j : Nat) (v : Value) (e : MapEntry), findM k l = some v ∧ es[j]? = some e ∧ e.key = .string k ∧ VR β v e.val ∧ (∀ i x, i < j → es[i]? = some x → x.key ≠ .string k) ∧ ∀ v', setM k v' l = l.set j (k, v')
  | [], [], _, _ => .inl ⟨rfl, (fun x h => by cases h), fun v => rfl⟩
  | [], _ :: _, h, _ => by simp at h
  | _ :: _, [], h, _ => by simp at h
  | (k', v') :: l, e :: es, hl, hr => by
    obtain ⟨e0, h0, h1, h2⟩ := hr 0 k' v' rfl
    simp only [List.getElem?_cons_zero, Option.some.injEq] at h0
    subst h0
    cases hk : eqT k k' with
    | true =>
      have := (eqT_iff k k').1 hk
      subst this
      right
      refine ⟨0, v', e, by simp [findM, hk], rfl, h1, h2, fun i x hi => by omega, fun v'' => by simp [setM, hk]⟩
    | false =>
      have hne : k ≠ k' := fun h => by rw [(eqT_iff k k').2 h] at hk; cases hk
      rcases findM_rel k l es (by simpa using hl) (fun j k v h => hr (j + 1) k v h) with ⟨a1, a2, a3⟩ | ⟨j, v, e1, a1, a2, a3, a4, a5, a6⟩
      · left
        refine ⟨by simp [findM, hk, a1], fun x hx => ?_, fun v => by simp [setM, hk, a3]⟩
        rcases List.mem_cons.1 hx with rfl | hx
        · rw [h1]; intro h; cases h; exact hne rfl
        · exact a2 x hx
      · right
        refine ⟨j + 1, v, e1, by simp [findM, hk, a1], by simpa using a2, a3, a4, fun i x hi hx => ?_, fun v' => by simp [setM, hk, a6]⟩
        cases i with
        | zero => simp only [List.getElem?_cons_zero, Option.some.injEq] at hx; subst hx; rw [h1]; intro h; cases h; exact hne rfl
        | succ i => exact a5 i x (by omega) (by simpa using hx)
theorem keys_all [Sym] {β : Emb} {l : List (ByteArray × Value)} {es : List MapEntry} (hl : es.length = l.length) (hr : ∀ (j : Nat) k v, l[j]? = some (k, v) → ∃ e, es[j]? = some e ∧ e.key = .string k ∧ VR β v e.val) :
    ∀ x ∈ es, MapKept.IsKey .string x.key := fun x hx => by
  obtain ⟨j, hj, rfl⟩ := List.mem_iff_getElem.1 hx
  obtain ⟨e, h1, h2, _⟩ := hr j (l[j]'(by omega)).1 (l[j]'(by omega)).2 (by rw [List.getElem?_eq_getElem (by omega)])
  rw [List.getElem?_eq_getElem hj, Option.some.injEq] at h1
  rw [h1, h2]; trivial
/-- What the machine's search answers. -/
theorem findNow_rel [Sym] {β : Emb} (k : ByteArray) {l : List (ByteArray × Value)} {es : List MapEntry} (hl : es.length = l.length) (hr : ∀ (j : Nat) k v, l[j]? = some (k, v) → ∃ e, es[j]? = some e ∧ e.key = .string k ∧ VR β v e.val) :
    (findM k l = none ∧ Instr.findNow .string (.string k) es 0 = some none ∧ ∀ v, setM k v l = l ++ [(k, v)]) ∨
    ∃ (j : Nat) (v : Value) (e : MapEntry), findM k l = some v ∧ Instr.findNow .string (.string k) es 0 = some (some (j, e.val)) ∧ es[j]? = some e ∧ e.key = .string k ∧ VR β v e.val ∧ ∀ v', setM k v' l = l.set j (k, v') := by
  rcases findM_rel k l es hl hr with ⟨a1, a2, a3⟩ | ⟨j, v, e, a1, a2, a3, a4, a5, a6⟩
  · rcases MapKept.findNow_spec (d := .string) (k := .string k) trivial es 0 (keys_all hl hr) with ⟨h1, _⟩ | ⟨i, x, _, h2, h3⟩
    · exact .inl ⟨a1, h1, a3⟩
    · exact absurd h3 (a2 x (List.mem_of_getElem? h2))
  · right
    have key : ∀ (es : List MapEntry) (n j : Nat) e, (∀ x ∈ es, MapKept.IsKey .string x.key) → es[j]? = some e → e.key = .string k → (∀ i x, i < j → es[i]? = some x → x.key ≠ .string k) → Instr.findNow .string (.string k) es n = some (some (n + j, e.val)) := by
      intro es
      induction es with
      | nil => intro n j e _ h; simp at h
      | cons x r ih =>
        intro n j e hk h1 h2 h3
        obtain ⟨b, hb, hiff⟩ := MapKept.sameNow_of_keys (d := .string) (a := .string k) trivial (hk x (.head _))
        cases j with
        | zero =>
          simp only [List.getElem?_cons_zero, Option.some.injEq] at h1
          subst h1
          have : b = true := hiff.2 h2.symm
          subst this
          simp [Instr.findNow, hb]
        | succ j =>
          have hx := h3 0 x (by omega) rfl
          have : b = false := by cases b with
            | false => rfl
            | true => exact absurd (hiff.1 rfl).symm hx
          subst this
          have := ih (n + 1) j e (fun y hy => hk y (.tail _ hy)) (by simpa using h1) h2 (fun i y hi hy => h3 (i + 1) y (by omega) (by simpa using hy))
          simp only [Instr.findNow, hb]
          rw [this]
          congr 3
          omega
    have := key es 0 j e (keys_all hl hr) a2 a3 a5
    rw [Nat.zero_add] at this
    exact ⟨j, v, e, a1, this, a2, a3, a4, a6⟩

/-! ### Reading -/
theorem cell_at [Sym] {w : World} {p : Pl} {c : List Value} {obj : Obj} (hh : w.heap[p.b]? = some obj) (h : OR β p obj (.table c)) {j : Nat} {v : Value} (hv : c[j]? = some v) :
    ∃ v', w.cell? ⟨p.b, p.o + j, none⟩ = some v' ∧ VR β v v' := by
  obtain ⟨arr, T, fr, rfl, h6⟩ := h
  obtain ⟨v', ha, hr⟩ := h6 j v hv
  exact ⟨v', by simp [World.cell?, hh, ha], hr⟩

theorem cut_some {c d : List Value} {k n : Nat} (h : cut c k n = some d) : d.length = n ∧ d = (c.drop k).take n ∧ k + n ≤ c.length ∨ d = [] ∧ n = 0 := by
  unfold cut at h
  simp only at h
  cases hb : Nat.beq ((c.drop k).take n).length n with
  | false => rw [hb] at h; cases h
  | true =>
    rw [hb] at h
    simp only [cond_true, Option.some.injEq] at h
    rw [beq_dec] at hb
    have hl := of_decide_eq_true hb
    by_cases hn : n = 0
    · right; subst hn; simp at h; exact ⟨h, rfl⟩
    · left
      refine ⟨by rw [← h]; exact hl, h.symm, ?_⟩
      simp only [List.length_take, List.length_drop] at hl
      omega
theorem cut_len {c d : List Value} {k n : Nat} (h : cut c k n = some d) : d.length = n := by
  rcases cut_some h with h | h
  · exact h.1
  · rw [h.1, h.2]; rfl
theorem cut_get {c d : List Value} {k n : Nat} (h : cut c k n = some d) {j : Nat} {v : Value} (hv : d[j]? = some v) : c[k + j]? = some v := by
  rcases cut_some h with ⟨_, rfl, _⟩ | ⟨rfl, _⟩
  · rw [List.getElem?_take] at hv
    split at hv
    · rwa [List.getElem?_drop] at hv
    · cases hv
  · simp at hv

/-- The cells of a row, loaded. -/
theorem run_cut [Sym] {w : World} {p : Pl} {c d : List Value} {k n : Nat} {obj : Obj} (hh : w.heap[p.b]? = some obj) (h : OR β p obj (.table c)) (hc : cut c k n = some d) :
    ∃ d', VRs β d d' ∧ (∀ j v, d'[j]? = some v → w.cell? (Addr.add ⟨p.b, p.o + k, none⟩ j) = some v) ∧ (loadCells ⟨p.b, p.o + k, none⟩ n).run P w = .ok d'.toArray w := by
  have hlen := cut_len hc
  have hex : ∀ j, j < n → ∃ v', w.cell? ⟨p.b, p.o + (k + j), none⟩ = some v' ∧ ∀ v, d[j]? = some v → VR β v v' := by
    intro j hj
    have hd : d[j]? = some d[j] := List.getElem?_eq_getElem (by omega)
    obtain ⟨v', h1, h2⟩ := cell_at hh h (cut_get hc hd)
    exact ⟨v', h1, fun v hv => by rw [hd] at hv; cases hv; exact h2⟩
  let f : Nat → Value := fun j => (w.cell? ⟨p.b, p.o + (k + j), none⟩).getD undef
  have hf : ∀ j, j < n → w.cell? (Addr.add ⟨p.b, p.o + k, none⟩ j) = some (f j) := by
    intro j hj
    obtain ⟨v', h1, _⟩ := hex j hj
    rw [add_addr, h1]
    simp [f, h1]
  refine ⟨(List.range n).map f, ⟨by simp [hlen], fun i x y hx hy => ?_⟩, fun j v hv => ?_, run_loadCells w _ n f hf⟩
  · rw [List.getElem?_map] at hy
    have hi : i < n := by rw [← hlen]; exact (List.getElem?_eq_some_iff.1 hx).1
    rw [List.getElem?_range hi] at hy
    simp only [Option.map_some, Option.some.injEq] at hy
    obtain ⟨v', h1, h2⟩ := hex i hi
    rw [← hy]
    simp only [f, h1, Option.getD_some]
    exact h2 x hx
  · rw [List.getElem?_map] at hv
    simp only [Option.map_eq_some_iff] at hv
    obtain ⟨a, ha, rfl⟩ := hv
    have haj : a = j ∧ j < n := by
      obtain ⟨h1, h2⟩ := List.getElem?_eq_some_iff.1 ha
      simp at h1 h2
      exact ⟨h2.symm, h1⟩
    rw [haj.1]
    exact hf j haj.2

theorem load_rel [Sym] (hL : L.Ok P) {w : World} {p : Pl} {c : List Value} {k : Nat} {t : TypeId} {v : Value} {obj : Obj} (hh : w.heap[p.b]? = some obj) (h : OR β p obj (.table c)) (hl : loadE L t k c = some v) :
    ∃ v', VR β v v' ∧ (loadVar t ⟨p.b, p.o + k, none⟩).run P w = .ok v' w := by
  unfold loadE at hl
  have hagg : ∀ d, L.und t = some d → aggD d = true → ((L.size t).bind fun n => (cut c k n).map fun d => .agg d.toArray) = some v →
      ∃ v', VR β v v' ∧ (loadVar t ⟨p.b, p.o + k, none⟩).run P w = .ok v' w := by
    intro d hu hd hl
    simp only [Option.bind_eq_some_iff, Option.map_eq_some_iff] at hl
    obtain ⟨n, hn, d, hc, rfl⟩ := hl
    obtain ⟨ti, hti, rfl⟩ := size_some hn
    obtain ⟨d', hr, _, hrun⟩ := run_cut (P := P) hh h hc
    refine ⟨.agg d'.toArray, VRs.agg (by simpa using hr), ?_⟩
    unfold loadVar
    rw [Sem.run_bind, run_isAgg (hL.und _ _ hu), hd]
    simp [run_size (hL.info _ _ hti), hrun]
  split at hl
  · rename_i f hu; exact hagg _ hu rfl hl
  · rename_i n e hu; exact hagg _ hu rfl hl
  · rename_i d h1 h2 hu
    obtain ⟨v', hv', hr⟩ := cell_at hh h hl
    refine ⟨v', hr, ?_⟩
    unfold loadVar
    rw [Sem.run_bind, run_isAgg (hL.und _ _ hu), aggD_no h1 h2]
    simp [load, Sem.run, hv']
  · cases hl

theorem bytes_some : ∀ {d : List Value} {l : List UInt8}, bytesE d = some l → ∃ ns : List Int, d = ns.map (Value.int .u8) ∧ l = ns.map fun n => UInt8.ofNat n.toNat
  | [], l, h => by simp [bytesE] at h; subst h; exact ⟨[], rfl, rfl⟩
  | v :: d, l, h => by
    unfold bytesE at h
    split at h
    · rename_i heq; cases heq
    · rename_i n r heq
      cases heq
      simp only [Option.map_eq_some_iff] at h
      obtain ⟨l', hl', rfl⟩ := h
      obtain ⟨ns, rfl, rfl⟩ := bytes_some hl'
      exact ⟨n :: ns, rfl, rfl⟩
    · cases h
theorem VRs.ints [Sym] {ns : List Int} {d' : List Value} (h : VRs β (ns.map (Value.int .u8)) d') : d' = ns.map (Value.int .u8) := by
  induction ns generalizing d' with
  | nil => exact h.of_nil
  | cons n ns ih =>
    obtain ⟨y, r, rfl, hy, hr⟩ := h.of_cons
    cases hy
    rw [ih hr]; rfl

def ReadOk [Sym] (P : Program) (β : Emb) (s : Sem Next) (i : Nat) (g : AObj → Option Value) : Prop :=
  ∃ p, β i = some p ∧ ∀ w ob obj v, g ob = some v → w.heap[p.b]? = some obj → OR β p obj ob → ∃ v', VR β v v' ∧ s.run P w = .ok (.value v') w

theorem read_sound [Sym] (hL : L.Ok P) (hρ : ∀ x v, ρ x = some v → VR β v (ρ' x)) {o : Oper} {i : Nat} {g : AObj → Option Value} (h : readE L ρ o = some (i, g)) :
    ReadOk P β (execOp ρ' o) i g := by
  unfold readE at h
  split at h
  case h_1 t a ho =>
    simp only [Option.bind_eq_some_iff, Option.map_eq_some_iff, Prod.mk.injEq] at h
    obtain ⟨v, hv, ⟨i', k⟩, hik, rfl, rfl⟩ := h
    have rv := hρ _ _ hv
    unfold execOp; simp only [ho]
    generalize ρ' a = a' at *
    obtain ⟨p, hp, rfl⟩ := addr_rel hik rv
    refine ⟨p, hp, fun w ob obj v hg hh hor => ?_⟩
    dsimp only at hg
    split at hg
    · obtain ⟨v', hr, hrun⟩ := load_rel hL hh hor.table hg
      exact ⟨v', hr, by simp [Instr.loadAt, Instr.sureAddr, hrun]⟩
    · obtain ⟨v', hr, hrun⟩ := load_rel hL hh hor hg
      exact ⟨v', hr, by simp [Instr.loadAt, Instr.sureAddr, hrun]⟩
    · cases hg
  case h_2 src dst x ho =>
    simp only [Option.bind_eq_some_iff] at h
    obtain ⟨v, hv, h⟩ := h
    have rv := hρ _ _ hv
    split at h
    · rename_i e i' k n cap hs hd
      split at h
      · rename_i he
        simp only [Option.some.injEq, Prod.mk.injEq] at h
        obtain ⟨rfl, rfl⟩ := h
        unfold execOp; simp only [ho]
        generalize ρ' x = a' at *
        cases rv with
        | slice hp hl hc hk hs' =>
        rename_i k' cap' p
        refine ⟨p, hp, fun w ob obj v hg hh hor => ?_⟩
        dsimp only at hg
        split at hg
        · simp only [Option.bind_eq_some_iff, Option.map_eq_some_iff] at hg
          obtain ⟨d, hd', l, hl', rfl⟩ := hg
          obtain ⟨ns, rfl, rfl⟩ := bytes_some hl'
          have hload : (loadCells ⟨p.b, k', none⟩ n).run P w = .ok (ns.map (Value.int .u8)).toArray w := by
            rcases hk with h0 | h0
            · have hn : n = 0 := by omega
              subst hn
              have : ns = [] := by
                have := cut_len hd'
                simpa using this
              subst this
              rfl
            · obtain ⟨d', hr, _, hrun⟩ := run_cut (P := P) hh hor.table hd'
              rw [h0, ← VRs.ints hr, hrun]
          refine ⟨_, .string _, ?_⟩
          have hb := run_bytesToString (P := P) w ⟨p.b, k', none⟩ n cap' ns hload
          rw [Sem.run_bind, run_convert_bytes_string w src dst e _ _ _ (hL.und _ _ hs) (hL.und _ _ he) (hL.und _ _ hd), hb]
          simp only [Result.andThen_ok, Sem.run_pure]
          congr 3
          have key : ∀ (ns : List Int) (s : ByteArray), ns.foldl (fun r n => r.push (UInt8.ofNat n.toNat)) s = ⟨s.data ++ (ns.map fun n => UInt8.ofNat n.toNat).toArray⟩ := by
            intro ns
            induction ns with
            | nil => intro s; cases s; simp
            | cons n ns ih =>
              intro s
              simp only [List.foldl_cons, ih]
              congr 1
              apply Array.toList_inj.1
              simp [ByteArray.push]
          rw [key]
          have e0 : ByteArray.empty.data = #[] := rfl
          rw [e0, Array.empty_append]
        · cases hg
      · cases h
    · cases h
  case h_3 t x lo hi ho =>
    simp only [Option.bind_eq_some_iff] at h
    obtain ⟨a, ha, lo1, hlo, hi1, hhi, h⟩ := h
    have ra := hρ _ _ ha
    unfold execOp; simp only [ho]
    generalize ρ' x = a' at *
    split at h
    · rename_i i' k n cap
      split at h
      · rename_i e hu
        simp only [Option.bind_eq_some_iff, Option.map_eq_some_iff, Prod.mk.injEq] at h
        obtain ⟨z, hz, ⟨l, h'⟩, hs, rfl, rfl⟩ := h
        obtain ⟨ti, hti, rfl⟩ := size_some hz
        have hs' := sliceE_rel hρ hlo hhi hs
        cases ra with
        | slice hp hl hc hk hcap =>
        rename_i k' cap' p
        have hs2 : sliceE n cap' (lo.map ρ') (hi.map ρ') = some (l, h') := by
          unfold sliceE at hs' ⊢
          simp only [Option.bind_eq_some_iff] at hs' ⊢
          obtain ⟨h1, hh, l1, hl1, hs'⟩ := hs'
          refine ⟨h1, hh, l1, hl1, ?_⟩
          cases hb : (Nat.ble h1 cap && Nat.ble l1 h1) with
          | false => simp [hb] at hs'
          | true =>
            simp only [hb, cond_true] at hs'
            simp only [Bool.and_eq_true, Nat.ble_eq] at hb
            rw [(by simp only [Bool.and_eq_true, Nat.ble_eq]; omega : (Nat.ble h1 cap' && Nat.ble l1 h1) = true)]
            simpa using hs'
        have hle := bounds_le hs
        refine ⟨p, hp, fun w ob obj v hg hh hor => ?_⟩
        dsimp only at hg
        split at hg
        · rename_i c zz
          cases hzz : (Nat.beq zz ti.size || Nat.beq zz 0) with
          | false => rw [hzz] at hg; cases hg
          | true =>
            rw [hzz] at hg
            simp only [cond_true, Option.some.injEq] at hg
            subst hg
            simp only [Bool.or_eq_true, beq_dec, decide_eq_true_eq] at hzz
            obtain ⟨arr, T, fr, _, h2, h3, _⟩ := hor
            refine ⟨.slice (some (if cap' = l then ⟨p.b, k', none⟩ else Addr.add ⟨p.b, k', none⟩ (l * ti.size))) (h' - l) (cap' - l), ?_, ?_⟩
            · have hmk : ∀ kk, (cap - l = 0 ∨ kk = p.o + (cond (Nat.beq cap l) k (k + l * ti.size))) → (cap' - l = cap - l ∨ (p.z ≠ 0 ∧ kk + (cap' - l) * p.z ≤ p.s)) →
                  VR β (.slice (some ⟨i', cond (Nat.beq cap l) k (k + l * ti.size), none⟩) (h' - l) (cap - l)) (.slice (some ⟨p.b, kk, none⟩) (h' - l) (cap' - l)) :=
                fun kk hk1 hk2 => .slice hp (by omega) (by omega) hk1 hk2
              have hspare : ∀ kk, kk = k' + l * ti.size → (cap' - l = cap - l ∨ (p.z ≠ 0 ∧ kk + (cap' - l) * p.z ≤ p.s)) := by
                intro kk hkk
                rcases hcap with h9 | ⟨hz0, h9⟩
                · left; omega
                · right
                  have hze : p.z = ti.size := by rcases hzz with h | h <;> omega
                  refine ⟨hz0, ?_⟩
                  rw [hkk, ← hze]
                  have : l * p.z + (cap' - l) * p.z = cap' * p.z := by rw [← Nat.add_mul]; congr 1; omega
                  omega
              by_cases e1 : cap' = l
              · have e2 : cap = l := by omega
                rw [if_pos e1]
                exact hmk _ (.inl (by omega)) (.inl (by omega))
              · rw [if_neg e1]
                have hadd : Addr.add ⟨p.b, k', none⟩ (l * ti.size) = ⟨p.b, k' + l * ti.size, none⟩ := by
                  unfold Addr.add; split
                  · rename_i h0; rw [h0]; rfl
                  · rfl
                rw [hadd]
                refine hmk _ ?_ (hspare _ rfl)
                by_cases e2 : cap = l
                · left; omega
                · right
                  rw [beq_dec, decide_eq_false e2]
                  simp only [cond_false]
                  have := hk.resolve_left (by omega)
                  omega
            · simp [Instr.sliceAt, Instr.slice, run_underlying (hL.und _ _ hu), (run_bounds (P := P) (b := true) hs2 w).1, run_size (hL.info _ _ hti)]
              split <;> rfl
        · cases hg
      · cases h
    · cases h
  case h_4 t x ix ok ho =>
    simp only [Option.bind_eq_some_iff] at h
    obtain ⟨va, ha, vb, hb, h⟩ := h
    have ra := hρ _ _ ha
    have rb := hρ _ _ hb
    unfold execOp; simp only [ho]
    generalize ρ' x = a' at *
    generalize ρ' ix = b' at *
    split at h
    · rename_i i' k kt et hu
      split at h
      · rename_i huk
        simp only [Option.bind_eq_some_iff] at h
        obtain ⟨inf, hinf, zero, hz, h⟩ := h
        cases hf : flat2 zero with
        | false => rw [hf] at h; cases h
        | true =>
          rw [hf] at h
          simp only [cond_true, Option.some.injEq, Prod.mk.injEq] at h
          obtain ⟨rfl, rfl⟩ := h
          cases rb
          cases ra with
          | map hp =>
            rename_i p
            refine ⟨p, hp, fun w ob obj v hg hh hor => ?_⟩
            dsimp only at hg
            split at hg
            · rename_i l
              obtain ⟨_, es, clock, rfl, hsz, hel⟩ := hor
              have hck := MapKept.run_checkKey (P := P) (w := w) (k := .string k) (hL.und _ _ huk) trivial es.isEmpty 9999
              rcases findNow_rel k hsz hel with ⟨a1, a2, _⟩ | ⟨j, v1, e, a1, a2, _, _, a5, _⟩
              · rw [a1] at hg
                simp only [Option.some.injEq] at hg
                subst hg
                refine ⟨cond ok (.tuple #[zero, .bool false]) zero, ?_, ?_⟩
                · cases ok
                  · exact flat2_refl hf
                  · exact VRs.tuple (VRs.cons (flat2_refl hf) (VRs.cons (.bool _) VRs.nil))
                · simp [Instr.lookup, run_underlying (hL.und _ _ hu), MapKept.run_getObj_map hh, hck, MapKept.run_findKey (hL.und _ _ huk) a2, run_zero (hL.info _ _ hinf) hz, Result.andThen]
                  try (cases ok <;> rfl)
              · rw [a1] at hg
                simp only [Option.some.injEq] at hg
                subst hg
                refine ⟨cond ok (.tuple #[e.val, .bool true]) e.val, ?_, ?_⟩
                · cases ok
                  · exact a5
                  · exact VRs.tuple (VRs.cons a5 (VRs.cons (.bool _) VRs.nil))
                · simp [Instr.lookup, run_underlying (hL.und _ _ hu), MapKept.run_getObj_map hh, hck, MapKept.run_findKey (hL.und _ _ huk) a2, Result.andThen]
                  try (cases ok <;> rfl)
            · cases hg
      · cases h
    · cases h
  case h_5 => cases h
end
end Go.E
/- What a piece of the evaluator's run says of the worlds: the invariant, the post, their laws; stores. -/
set_option linter.unusedSimpArgs false
set_option linter.unusedVariables false
namespace Go.E
open Go

/-- N: numbers from N on may belong to others; the run stays below. -/
structure Inv [Sym] (N : Nat) (β : Emb) (L : Lk) (st : St) (w : World) : Prop where
  rep : Rep β st.mem.get w
  glob : GOk β L
  dom : ∀ i, β i ≠ none → i < st.next ∨ N ≤ i
  wf : ∀ i, st.next ≤ i → st.mem.get i = none
  bn : st.base ≤ st.next

/-- What holds of the evaluator's states alone. -/
structure Mono (st st' : St) : Prop where
  next : st.next ≤ st'.next
  base : st'.base = st.base
  log : ∀ i, i ∈ st.log → i ∈ st'.log
  logb : ∀ i, i ∈ st'.log → i ∈ st.log ∨ i < st.base
  keep : ∀ i, i < st.next → i < st.base → i ∉ st'.log → st'.mem.get i = st.mem.get i
  wf : (∀ i, st.next ≤ i → st.mem.get i = none) → ∀ i, st'.next ≤ i → st'.mem.get i = none
  dead : ∀ i, i < st.next → st.mem.get i = none → st'.mem.get i = none

structure Post [Sym] (st st' : St) (β : Emb) (w : World) (β' : Emb) (w' : World) : Prop where
  ext : ∀ i p, β i = some p → β' i = some p
  dom : ∀ i, β' i ≠ none → β i ≠ none ∨ (st.next ≤ i ∧ i < st'.next)
  rep : Rep β' st'.mem.get w'
  frame : ∀ b, b < w.heap.size → w'.heap[b]? = w.heap[b]? ∨ ∃ i p, β i = some p ∧ p.b = b ∧ st.mem.get i ≠ none ∧ (i ∈ st'.log ∨ st.base ≤ i)
  logd : ∀ i, i ∈ st'.log → i ∈ st.log ∨ β i ≠ none
  fresh : ∀ i p, β' i = some p → β i = none → w.heap.size ≤ p.b ∨ ∃ j q, β j = some q ∧ q.b = p.b ∧ st.mem.get j ≠ none ∧ (j ∈ st'.log ∨ st.base ≤ j)
  size : w.heap.size ≤ w'.heap.size
  os : w'.os = w.os
  tape : w'.tape = w.tape
  output : w'.output = w.output

theorem Mono.refl (st : St) : Mono st st := ⟨Nat.le_refl _, rfl, fun _ h => h, fun _ h => .inl h, fun _ _ _ _ => rfl, fun h => h, fun _ _ h => h⟩
theorem Mono.trans {a b c : St} (h : Mono a b) (k : Mono b c) : Mono a c where
  next := Nat.le_trans h.next k.next
  base := k.base.trans h.base
  log := fun i hi => k.log i (h.log i hi)
  logb := fun i hi => by
    rcases k.logb i hi with h1 | h1
    · exact h.logb i h1
    · exact .inr (h.base ▸ h1)
  keep := fun i h1 h2 h3 => by
    rw [k.keep i (Nat.lt_of_lt_of_le h1 h.next) (h.base.symm ▸ h2) h3]
    exact h.keep i h1 h2 fun hi => h3 (k.log i hi)
  wf := fun hw => k.wf (h.wf hw)
  dead := fun i h1 h2 => k.dead i (Nat.lt_of_lt_of_le h1 h.next) (h.dead i h1 h2)

section
variable {P : Program} {L : Lk} {β β' : Emb} {st st' : St} {w w' : World} {N : Nat}

theorem Post.refl [Sym] (h : Rep β st.mem.get w) : Post st st β w β w :=
  ⟨fun _ _ h => h, fun _ h => .inl h, h, fun _ _ => .inl rfl, fun _ h => .inl h, (fun i p h1 h2 => by rw [h1] at h2; cases h2), Nat.le_refl _, rfl, rfl, rfl⟩

theorem Inv.step [Sym] (hi : Inv N β L st w) (hm : Mono st st') (hp : Post st st' β w β' w') : Inv N β' L st' w' where
  rep := hp.rep
  glob := fun g hg => let ⟨p, h1, h2⟩ := hi.glob g hg; ⟨p, hp.ext _ _ h1, h2⟩
  dom := fun i h => by
    rcases hp.dom i h with h1 | h1
    · exact (hi.dom i h1).imp (fun h => Nat.lt_of_lt_of_le h hm.next) id
    · exact .inl h1.2
  wf := hm.wf hi.wf
  bn := by rw [hm.base]; exact Nat.le_trans hi.bn hm.next

theorem Post.trans [Sym] {β'' : Emb} {st'' : St} {w'' : World} (hi : Inv N β L st w) (hm : Mono st st') (hm' : Mono st' st'') (hN : st''.next ≤ N) (h : Post st st' β w β' w') (k : Post st' st'' β' w' β'' w'') :
    Post st st'' β w β'' w'' := by
  -- a block of an old number that is live behind is live ahead
  have live : ∀ i, β i ≠ none → st'.mem.get i ≠ none → st.mem.get i ≠ none := fun i h1 h2 h3 => by
    rcases hi.dom i h1 with h4 | h4
    · exact h2 (hm.dead i h4 h3)
    · exact h2 (hm.wf hi.wf i (by have := hm'.next; omega))
  have up : ∀ i, (i ∈ st'.log ∨ st.base ≤ i) → (i ∈ st''.log ∨ st.base ≤ i) := fun i hh => hh.imp (hm'.log i) id
  -- what the second piece touches of the first world's blocks
  have old : ∀ b, b < w.heap.size → (∃ i p, β' i = some p ∧ p.b = b ∧ st'.mem.get i ≠ none ∧ (i ∈ st''.log ∨ st'.base ≤ i)) →
      ∃ i p, β i = some p ∧ p.b = b ∧ st.mem.get i ≠ none ∧ (i ∈ st''.log ∨ st.base ≤ i) := by
    rintro b hb ⟨i, p, h1, h2, h3, h4⟩
    cases hbi : β i with
    | some q =>
      have := h.ext i q hbi
      rw [h1] at this; cases this
      exact ⟨i, p, hbi, h2, live i (by rw [hbi]; simp) h3, hm.base ▸ h4⟩
    | none =>
      rcases h.fresh i p h1 hbi with h5 | ⟨j, q, a1, a2, a3, a4⟩
      · omega
      · exact ⟨j, q, a1, a2.trans h2, a3, up j a4⟩
  refine ⟨fun i p h1 => k.ext i p (h.ext i p h1), fun i h1 => ?_, k.rep, fun b hb => ?_, fun i h1 => ?_, fun i p h1 h2 => ?_, Nat.le_trans h.size k.size, k.os.trans h.os, k.tape.trans h.tape, k.output.trans h.output⟩
  · rcases k.dom i h1 with h2 | h2
    · rcases h.dom i h2 with h3 | h3
      · exact .inl h3
      · exact .inr ⟨h3.1, Nat.lt_of_lt_of_le h3.2 hm'.next⟩
    · exact .inr ⟨Nat.le_trans hm.next h2.1, h2.2⟩
  · rcases k.frame b (Nat.lt_of_lt_of_le hb h.size) with h1 | h1
    · rcases h.frame b hb with h2 | ⟨i, p, a1, a2, a3, a4⟩
      · exact .inl (h1.trans h2)
      · exact .inr ⟨i, p, a1, a2, a3, up i a4⟩
    · exact .inr (old b hb h1)
  · rcases k.logd i h1 with h2 | h2
    · exact h.logd i h2
    · by_cases h3 : β i = none
      · -- logged, but no old number: it is of the first piece, above the base
        rcases hm'.logb i h1 with h4 | h4
        · exact h.logd i h4
        · rcases h.dom i h2 with h5 | h5
          · exact .inr h5
          · have h6 := hi.bn; have h7 := h5.1; rw [hm.base] at h4; omega
      · exact .inr h3
  · cases hbi : β' i with
    | some q =>
      have := k.ext i q hbi
      rw [h1] at this; cases this
      rcases h.fresh i p hbi h2 with h3 | ⟨j, q, a1, a2, a3, a4⟩
      · exact .inl h3
      · exact .inr ⟨j, q, a1, a2, a3, up j a4⟩
    | none =>
      by_cases hb : p.b < w.heap.size
      · rcases k.fresh i p h1 hbi with h3 | h3
        · have := h.size; omega
        · obtain ⟨j, q, a1, a2, a3, a4⟩ := h3
          exact .inr (old p.b hb ⟨j, q, a1, a2, a3, a4⟩)
      · exact .inl (by omega)
end

/-! ### Contracts with new memory -/
def embB (l : List (Nat × AObj)) (pl : Nat → Pl) : Emb := fun i => if i ∈ l.map (·.1) then some (pl i) else none
theorem putAll_not : ∀ (l : List (Nat × AObj)) (m : PT AObj) (i : Nat), i ∉ l.map (·.1) → (putAll l m).get i = m.get i
  | [], m, i, _ => rfl
  | x :: r, m, i, h => by
    simp only [List.map_cons, List.mem_cons, not_or] at h
    simp only [putAll, PT.get_upd]
    rw [if_neg (fun e => h.1 e.symm)]
    exact putAll_not r m i h.2
theorem putAll_mem : ∀ (l : List (Nat × AObj)) (m : PT AObj) (i : Nat) (ob : AObj), i ∈ l.map (·.1) → (putAll l m).get i = some ob → (i, ob) ∈ l
  | [], m, i, ob, h, _ => by cases h
  | x :: r, m, i, ob, h, k => by
    simp only [putAll, PT.get_upd] at k
    split at k
    · rename_i e; cases k; subst e; exact List.mem_cons_self ..
    · rename_i e
      simp only [List.map_cons, List.mem_cons] at h
      rcases h with h | h
      · exact absurd h.symm e
      · exact List.mem_cons_of_mem _ (putAll_mem r m i ob h k)
theorem putAll_some : ∀ (l : List (Nat × AObj)) (m : PT AObj) (i : Nat), (putAll l m).get i ≠ none → i ∈ l.map (·.1) ∨ m.get i ≠ none := fun l m i h => by
  by_cases hi : i ∈ l.map (·.1)
  · exact .inl hi
  · rw [putAll_not l m i hi] at h; exact .inr h

/-- What a contract's call does, over whatever memory. -/
structure ConPost [Sym] (c : Con) (pl : Nat → Pl) (w : World) (v' : Value) (β' : Emb) (w' : World) : Prop where
  val : VR β' c.v v'
  below : RowKit.Below w.heap.size w w'
  dom : ∀ i p, β' i = some p → (i ∈ c.tabs.map (·.1) ∧ p = pl i) ∨ (c.A ≤ i ∧ i < c.B ∧ w.heap.size ≤ p.b)
  inb : ∀ i p, β' i = some p → p.b < w'.heap.size
  obj : ∀ i p ob, β' i = some p → (i, ob) ∈ c.objs → ∃ obj, w'.heap[p.b]? = some obj ∧ OR β' p obj ob
  inj : ∀ i j p q, β' i = some p → β' j = some q → i ∈ c.objs.map (·.1) → j ∈ c.objs.map (·.1) → p.b = q.b → i = j
structure ConFact [Sym] (P : Program) (f : FuncId) (vs : List Value) (c : Con) : Prop where
  flat : ∀ x ∈ vs, flat3 x = true
  enter : ∃ j, (∀ as w, (callFunc f as).run P w = .ok (.enter j as) w) ∧ ∀ w (pl : Nat → Pl),
    (∀ x ∈ c.tabs, (pl x.1).b = x.1 ∧ (pl x.1).o = 0 ∧ ∃ obj, w.heap[x.1]? = some obj ∧ OR (embB c.tabs pl) (pl x.1) obj x.2) →
    Calls P j vs.toArray w fun e w' => ∃ v' β', e = .returned v' ∧ ConPost c pl w v' β' w'
def ConOk [Sym] (P : Program) (L : Lk) : Prop := ∀ f vs nx c, L.con f vs nx = some c → ConFact P f vs c

theorem bytes_ext {a b : ByteArray} (h : a.data.toList = b.data.toList) : a = b := by
  cases a with
  | mk d => cases b with
    | mk d' =>
      have : d = d' := Array.toList_inj.1 h
      rw [this]
theorem eqVs_eq : ∀ (a b : List Value), eqVs a b = true → a = b ∧ ∀ x ∈ a, symOk x = true
  | [], b, h => by
    cases b with
    | nil => exact ⟨rfl, fun x h => by cases h⟩
    | cons y b => simp [eqVs] at h
  | x :: a, b, h => by
    unfold eqVs at h
    split at h
    · rename_i e1; cases e1
    · rename_i k n a' k' n' b' e1
      cases e1
      cases hk : decide (k = k') with
      | false => rw [hk] at h; cases h
      | true =>
        rw [hk] at h
        cases hn : decide (n = n') with
        | false => rw [hn] at h; cases h
        | true =>
          rw [hn] at h
          obtain ⟨e1, e2⟩ := eqVs_eq a b' h
          rw [of_decide_eq_true hk, of_decide_eq_true hn, e1]
          refine ⟨rfl, fun x hx => ?_⟩
          rcases List.mem_cons.1 hx with rfl | hx
          · rfl
          · exact e2 x (e1 ▸ hx)
    · rename_i s a' s' b' e1
      cases e1
      cases hs : decide (s.data.toList = s'.data.toList) with
      | false => rw [hs] at h; cases h
      | true =>
        rw [hs] at h
        obtain ⟨e1, e2⟩ := eqVs_eq a b' h
        rw [bytes_ext (of_decide_eq_true hs), e1]
        refine ⟨rfl, fun x hx => ?_⟩
        rcases List.mem_cons.1 hx with rfl | hx
        · rfl
        · exact e2 x (e1 ▸ hx)
    · rename_i i a' j b' e1
      cases e1
      cases hs : Nat.beq i j with
      | false => rw [hs] at h; cases h
      | true =>
        rw [hs] at h
        obtain ⟨e1, e2⟩ := eqVs_eq a b' h
        rw [beq_dec] at hs
        rw [of_decide_eq_true hs, e1]
        refine ⟨rfl, fun x hx => ?_⟩
        rcases List.mem_cons.1 hx with rfl | hx
        · rfl
        · exact e2 x (e1 ▸ hx)
    · cases h
theorem OR.table_flat [Sym] {β β' : Emb} {p : Pl} {obj : Obj} {c : List Value} (hc : ∀ x ∈ c, symOk x = true) (h : OR β p obj (.table c)) : OR β' p obj (.table c) := by
  obtain ⟨arr, T, fr, h1, h6⟩ := h
  refine ⟨arr, T, fr, h1, fun j v hv => ?_⟩
  obtain ⟨v', a, b⟩ := h6 j v hv
  have hf := hc v (List.mem_of_getElem? hv)
  rw [symOk_eq hf b] at a
  exact ⟨_, a, symOk_refl hf⟩

/-- **A contract's call in the midst of a run.** -/
theorem con_post [Sym] {L : Lk} {β : Emb} {st : St} {w : World} {N : Nat} {c : Con} (hi : Inv N β L st w) (hN : c.B ≤ N) (hA : st.next ≤ c.A) (hAB : c.A ≤ c.B)
    (ho : ∀ x ∈ c.objs, c.A ≤ x.1 ∧ x.1 < c.B) (ht : ∀ x ∈ c.tabs, x.1 < c.A) {pl : Nat → Pl} (hpl : ∀ x ∈ c.tabs, β x.1 = some (pl x.1)) {v' : Value} {β' : Emb} {w' : World} (h : ConPost c pl w v' β' w') :
    ∃ β'', Post st { st with mem := putAll c.objs st.mem, next := c.B } β w β'' w' ∧ VR β'' c.v v' := by
  have hidx : ∀ i, i ∈ c.objs.map (·.1) → c.A ≤ i ∧ i < c.B := fun i hx => by
    obtain ⟨x, hm, rfl⟩ := List.mem_map.1 hx; exact ho x hm
  have hold : ∀ i p, β i = some p → ¬ (c.A ≤ i ∧ i < c.B) := fun i p hp hx => by
    rcases hi.dom i (by rw [hp]; simp) with h1 | h1 <;> omega
  let β'' : Emb := fun i => if c.A ≤ i ∧ i < c.B then β' i else β i
  have e1 : ∀ i p, β i = some p → β'' i = some p := fun i p hp => by show (if _ then _ else _) = _; rw [if_neg (hold i p hp)]; exact hp
  have e2 : ∀ i p, β' i = some p → β'' i = some p := fun i p hp => by
    rcases h.dom i p hp with ⟨hm, rfl⟩ | hx
    · obtain ⟨x, hx, rfl⟩ := List.mem_map.1 hm
      exact e1 _ _ (hpl x hx)
    · show (if _ then _ else _) = _
      rw [if_pos ⟨hx.1, hx.2.1⟩]; exact hp
  have split : ∀ i p, β'' i = some p → (c.A ≤ i ∧ i < c.B ∧ β' i = some p ∧ w.heap.size ≤ p.b) ∨ (¬ (c.A ≤ i ∧ i < c.B) ∧ β i = some p ∧ p.b < w.heap.size) := fun i p hp => by
    by_cases hx : c.A ≤ i ∧ i < c.B
    · have hp' : β' i = some p := by
        have : (if c.A ≤ i ∧ i < c.B then β' i else β i) = some p := hp
        rwa [if_pos hx] at this
      rcases h.dom i p hp' with ⟨hm, _⟩ | hy
      · obtain ⟨x, hxm, rfl⟩ := List.mem_map.1 hm
        have := ht x hxm; omega
      · exact .inl ⟨hx.1, hx.2, hp', hy.2.2⟩
    · have hp' : β i = some p := by
        have : (if c.A ≤ i ∧ i < c.B then β' i else β i) = some p := hp
        rwa [if_neg hx] at this
      exact .inr ⟨hx, hp', hi.rep.inb i p hp'⟩
  have hnone : ∀ i, c.A ≤ i → st.mem.get i = none := fun i hx => hi.wf i (by omega)
  refine ⟨β'', ⟨e1, fun i hx => ?_, ⟨fun i p hp => ?_, fun i p ob hp hv => ?_, fun i j p q h1 h2 h3 h4 h5 => ?_⟩, fun b hb => .inl (h.below.block b hb), fun _ h => .inl h, fun i p h1 h2 => ?_, h.below.size, h.below.os, h.below.tape, h.below.output⟩, h.val.mono e2⟩
  · cases hp : β'' i with
    | none => exact absurd hp hx
    | some p =>
      rcases split i p hp with h1 | h1
      · exact .inr ⟨by omega, h1.2.1⟩
      · exact .inl (by rw [h1.2.1]; simp)
  · rcases split i p hp with h1 | h1
    · exact h.inb i p h1.2.2.1
    · exact Nat.lt_of_lt_of_le h1.2.2 h.below.size
  · rcases split i p hp with h1 | h1
    · have hm : i ∈ c.objs.map (·.1) := by
        rcases putAll_some c.objs st.mem i (by rw [show (putAll c.objs st.mem).get i = some ob from hv]; simp) with h2 | h2
        · exact h2
        · exact absurd (hnone i h1.1) h2
      obtain ⟨obj, a, b⟩ := h.obj i p ob h1.2.2.1 (putAll_mem _ _ _ _ hm hv)
      exact ⟨obj, a, b.mono e2⟩
    · have hv' : st.mem.get i = some ob := by
        rw [← putAll_not c.objs st.mem i (fun hm => h1.1 (hidx i hm))]; exact hv
      obtain ⟨obj, a, b⟩ := hi.rep.obj i p ob h1.2.1 hv'
      exact ⟨obj, by rw [h.below.block _ h1.2.2]; exact a, b.mono e1⟩
  · have live : ∀ i, ¬ (c.A ≤ i ∧ i < c.B) → (putAll c.objs st.mem).get i ≠ none → st.mem.get i ≠ none := fun i hx hy => by
      rwa [putAll_not c.objs st.mem i (fun hm => hx (hidx i hm))] at hy
    have mem : ∀ i, c.A ≤ i → (putAll c.objs st.mem).get i ≠ none → i ∈ c.objs.map (·.1) := fun i hx hy => by
      rcases putAll_some c.objs st.mem i hy with h2 | h2
      · exact h2
      · exact absurd (hnone i hx) h2
    rcases split i p h1 with a | a <;> rcases split j q h2 with b | b
    · exact h.inj i j p q a.2.2.1 b.2.2.1 (mem i a.1 h3) (mem j b.1 h4) h5
    · omega
    · omega
    · exact hi.rep.inj i j p q a.2.1 b.2.1 (live i a.1 h3) (live j b.1 h4) h5
  · rcases split i p h1 with a | a
    · exact .inl a.2.2.2
    · rw [a.2.1] at h2; cases h2
end Go.E
/- Stores, new blocks, appends: sound. -/
set_option linter.unusedSimpArgs false
set_option linter.unusedVariables false
namespace Go.E
open Go

section
variable {P : Program} {L : Lk} {β β' : Emb} {st st' : St} {w w' : World} {N : Nat}

theorem note_mem {st : St} {i j : Nat} : j ∈ st.note i ↔ j ∈ st.log ∨ (j = i ∧ i < st.base) := by
  unfold St.note
  cases hb : Nat.blt i st.base with
  | false =>
    have : ¬ i < st.base := by rw [← Nat.blt_eq, hb]; simp
    simp [this]
  | true =>
    rw [Nat.blt_eq] at hb
    simp only [cond_true, hb, and_true]
    cases hc : st.log.contains i with
    | true =>
      simp only [cond_true]
      constructor
      · exact .inl
      · rintro (h | rfl)
        · exact h
        · simpa using hc
    | false => simp [List.mem_cons, or_comm]

theorem mono_write {st : St} {i : Nat} {ob : Option AObj} (hi : i < st.next) (hl : st.mem.get i ≠ none) : Mono st (st.write i ob) where
  next := Nat.le_refl _
  base := rfl
  log := fun j hj => note_mem.2 (.inl hj)
  logb := fun j hj => by rcases note_mem.1 hj with h | ⟨rfl, h⟩ <;> simp [h]
  keep := fun j h1 h2 h3 => by
    have : i ≠ j := fun e => h3 (note_mem.2 (.inr ⟨e.symm, e ▸ h2⟩))
    simp [St.write, this]
  wf := fun h j hj => by
    have hj' : st.next ≤ j := hj
    have : i ≠ j := by omega
    simp [St.write, this, h j hj']
  dead := fun j h1 h2 => by
    have : i ≠ j := fun e => hl (e ▸ h2)
    simp [St.write, this, h2]

theorem mono_new {st : St} {ob : AObj} : Mono st (st.new ob) where
  next := Nat.le_succ _
  base := rfl
  log := fun _ h => h
  logb := fun _ h => .inl h
  keep := fun j h1 _ _ => by
    have : st.next ≠ j := by omega
    simp [St.new, this]
  wf := fun h j hj => by
    have hj' : st.next + 1 ≤ j := hj
    have : st.next ≠ j := by omega
    simp [St.new, this, h j (by omega)]
  dead := fun j h1 h2 => by
    have : st.next ≠ j := by omega
    simp [St.new, this, h2]

/-- A new number for a new block. -/
def Emb.add (β : Emb) (n : Nat) (p : Pl) : Emb := fun i => if i = n then some p else β i
theorem Emb.add_self {n : Nat} {p : Pl} : β.add n p n = some p := by simp [Emb.add]
theorem Emb.add_old {n : Nat} {p : Pl} (h : β n = none) : ∀ i q, β i = some q → β.add n p i = some q := fun i q hq => by
  have : i ≠ n := fun e => by subst e; rw [h] at hq; cases hq
  simp [Emb.add, this, hq]
theorem Emb.add_inv {n i : Nat} {p q : Pl} (h : β.add n p i = some q) : (i = n ∧ q = p) ∨ (i ≠ n ∧ β i = some q) := by
  unfold Emb.add at h
  split at h
  · rename_i e; cases h; exact .inl ⟨e, rfl⟩
  · rename_i e; exact .inr ⟨e, h⟩

theorem rep_new [Sym] {V V' : View} {n : Nat} {obj : Obj} {s z d : Nat} {ob : AObj} (hr : Rep β V w) (hn : β n = none) (hV : ∀ i, i ≠ n → V' i = V i) (hVn : V' n = some ob)
    (hob : OR (β.add n ⟨w.heap.size, 0, s, z⟩) ⟨w.heap.size, 0, s, z⟩ obj ob) :
    Rep (β.add n ⟨w.heap.size, 0, s, z⟩) V' { w with heap := w.heap.push obj, drawn := d } where
  inb := fun i p h => by
    rcases Emb.add_inv h with ⟨_, rfl⟩ | ⟨_, h⟩
    · simp
    · have := hr.inb i p h; simp; omega
  obj := fun i p ob' h hv => by
    rcases Emb.add_inv h with ⟨rfl, rfl⟩ | ⟨hne, h⟩
    · rw [hVn] at hv; cases hv
      exact ⟨obj, by simp, hob⟩
    · rw [hV i hne] at hv
      obtain ⟨o', h1, h2⟩ := hr.obj i p ob' h hv
      have := hr.inb i p h
      refine ⟨o', ?_, h2.mono (Emb.add_old hn)⟩
      show (w.heap.push obj)[p.b]? = _
      rw [Array.getElem?_push_lt this, ← Array.getElem?_eq_getElem]; exact h1
  inj := fun i j p q h1 h2 h3 h4 h5 => by
    rcases Emb.add_inv h1 with ⟨e1, f1⟩ | ⟨hne, g1⟩ <;> rcases Emb.add_inv h2 with ⟨e2, f2⟩ | ⟨hne', g2⟩
    · rw [e1, e2]
    · have := hr.inb j q g2; rw [f1] at h5; simp only at h5; omega
    · have := hr.inb i p g1; rw [f2] at h5; simp only at h5; omega
    · rw [hV i hne] at h3; rw [hV j hne'] at h4
      exact hr.inj i j p q g1 g2 h3 h4 h5

theorem wf_lt {st : St} (h : ∀ i, st.next ≤ i → st.mem.get i = none) {i : Nat} (hi : st.mem.get i ≠ none) : i < st.next := by
  apply Classical.byContradiction
  intro hc
  exact hi (h i (by omega))
theorem dom_none [Sym] (hi : Inv N β L st w) (hN : st.next < N) : β st.next = none := by
  cases h : β st.next with
  | none => rfl
  | some p => have := hi.dom st.next (by rw [h]; simp); omega

theorem post_new [Sym] {obj : Obj} {s z d : Nat} {ob : AObj} (hi : Inv N β L st w) (hN : st.next < N) (hob : OR (β.add st.next ⟨w.heap.size, 0, s, z⟩) ⟨w.heap.size, 0, s, z⟩ obj ob) :
    Post st (st.new ob) β w (β.add st.next ⟨w.heap.size, 0, s, z⟩) { w with heap := w.heap.push obj, drawn := d } where
  ext := Emb.add_old (dom_none hi hN)
  dom := fun i h => by
    by_cases e : i = st.next
    · subst e; exact .inr ⟨Nat.le_refl _, Nat.lt_succ_self _⟩
    · left; simpa [Emb.add, e] using h
  rep := rep_new hi.rep (dom_none hi hN) (fun i hne => by simp [St.new, Ne.symm hne]) (by simp [St.new]) hob
  frame := fun b hb => .inl (by show (w.heap.push obj)[b]? = _; rw [Array.getElem?_push_lt hb, ← Array.getElem?_eq_getElem])
  logd := fun _ h => .inl h
  fresh := fun i p h1 h2 => by
    rcases Emb.add_inv h1 with ⟨_, rfl⟩ | ⟨_, h⟩
    · exact .inl (Nat.le_refl _)
    · rw [h] at h2; cases h2
  size := by simp
  os := rfl
  tape := rfl
  output := rfl

/-! ### Storing cells -/
structure Wrote (w w' : World) (b : Nat) : Prop where
  other : ∀ k, k ≠ b → w'.heap[k]? = w.heap[k]?
  size : w'.heap.size = w.heap.size
  os : w'.os = w.os
  tape : w'.tape = w.tape
  output : w'.output = w.output
theorem Wrote.refl (w : World) (b : Nat) : Wrote w w b := ⟨fun _ _ => rfl, rfl, rfl, rfl, rfl⟩
theorem Wrote.trans {a b c : World} {k : Nat} (h : Wrote a b k) (j : Wrote b c k) : Wrote a c k :=
  ⟨fun i hi => (j.other i hi).trans (h.other i hi), j.size.trans h.size, j.os.trans h.os, j.tape.trans h.tape, j.output.trans h.output⟩

theorem run_store1 {b k : Nat} {arr : Array Value} {T : TypeId} {fr : Nat × Nat} {v : Value} (hh : w.heap[b]? = some (.cells arr T fr)) (hk : k < arr.size) (hf : ¬ (fr.1 ≤ k ∧ k < fr.2)) (h1 : one v = true) :
    ∃ w', (store ⟨b, k, none⟩ v).run P w = .ok () w' ∧ w'.heap[b]? = some (.cells (arr.setIfInBounds k v) T fr) ∧ Wrote w w' b := by
  have hc : w.cell? ⟨b, k, none⟩ = some arr[k] := by simp [World.cell?, hh, hk]
  have hfz : w.frozen? ⟨b, k, none⟩ = false := by
    simp only [World.frozen?, hh]
    simpa using hf
  refine ⟨w.setCell ⟨b, k, none⟩ v, ?_, ?_, ?_⟩
  · unfold store
    cases v <;> first
      | (simp [one] at h1; done)
      | (simp [Sem.run, hc, hfz])
  · have hlt : b < w.heap.size := (Array.getElem?_eq_some_iff.1 hh).1
    have hv : w.heap[b] = .cells arr T fr := (Array.getElem?_eq_some_iff.1 hh).2
    unfold World.setCell
    rw [Array.getElem?_eq_getElem (by simpa using hlt), Array.getElem_modify]
    simp [hv]
  · refine ⟨fun j hj => ?_, ?_, rfl, rfl, rfl⟩
    · unfold World.setCell
      simp only [Array.getElem?_modify]
      rw [if_neg (fun e => hj e.symm)]
    · simp [World.setCell]

theorem run_stores {b o : Nat} {T : TypeId} {fr : Nat × Nat} : ∀ (vs : List Value) (i : Nat) (arr : Array Value) (w : World), w.heap[b]? = some (.cells arr T fr) →
    (∀ k, k < arr.size → ¬ (fr.1 ≤ k ∧ k < fr.2)) → o + i + vs.length ≤ arr.size → vs.all one = true →
    ∃ w' arr', (storeCells ⟨b, o, none⟩ vs i).run P w = .ok () w' ∧ w'.heap[b]? = some (.cells arr' T fr) ∧ arr'.size = arr.size ∧ Wrote w w' b ∧
      ∀ j, arr'[j]? = if o + i ≤ j ∧ j < o + i + vs.length then vs[j - (o + i)]? else arr[j]?
  | [], i, arr, w, hh, hf, hl, h1 => ⟨w, arr, rfl, hh, rfl, .refl w b, fun j => by rw [if_neg (by intro h; simp at h; omega)]⟩
  | v :: vs, i, arr, w, hh, hf, hl, h1 => by
    simp only [List.length_cons] at hl
    simp only [List.all_cons, Bool.and_eq_true] at h1
    obtain ⟨w1, hr1, hh1, hw1⟩ := run_store1 (P := P) (v := v) hh (k := o + i) (by omega) (hf (o + i) (by omega)) h1.1
    obtain ⟨w2, arr2, hr2, hh2, hs2, hw2, hg2⟩ := run_stores (o := o) vs (i + 1) (arr.setIfInBounds (o + i) v) w1 hh1 (by simpa using hf) (by simp; omega) h1.2
    refine ⟨w2, arr2, ?_, hh2, by simpa using hs2, hw1.trans hw2, fun j => ?_⟩
    · simp only [storeCells]
      have ha : Addr.add ⟨b, o, none⟩ i = ⟨b, o + i, none⟩ := by
        unfold Addr.add; split
        · rename_i h0; rw [h0]; rfl
        · rfl
      rw [ha, Sem.run_bind, hr1]
      exact hr2
    · rw [hg2 j]
      simp only [List.length_cons]
      by_cases e : j = o + i
      · subst e
        rw [if_neg (by omega), if_pos (by omega)]
        simp only [Nat.sub_self, List.getElem?_cons_zero]
        rw [Array.getElem?_setIfInBounds_self_of_lt (by omega)]
      · by_cases hj : o + (i + 1) ≤ j ∧ j < o + (i + 1) + vs.length
        · rw [if_pos hj, if_pos (by omega)]
          have : j - (o + i) = (j - (o + (i + 1))) + 1 := by omega
          rw [this, List.getElem?_cons_succ]
        · rw [if_neg hj, if_neg (by omega), Array.getElem?_setIfInBounds_ne (Ne.symm e)]

theorem all_one_rel [Sym] {vs vs' : List Value} (h : VRs β vs vs') (h1 : vs.all one = true) : vs'.all one = true := by
  induction vs generalizing vs' with
  | nil => rw [h.of_nil]; rfl
  | cons v vs ih =>
    obtain ⟨y, r, rfl, hy, hr⟩ := h.of_cons
    simp only [List.all_cons, Bool.and_eq_true] at h1 ⊢
    exact ⟨by rw [hy.one_eq]; exact h1.1, ih hr h1.2⟩

theorem rep_write [Sym] {V V' : View} {i : Nat} {p : Pl} {ob : AObj} (hr : Rep β V w) (hp : β i = some p) (hl : V i ≠ none) (hw : Wrote w w' p.b) (hV : ∀ j, j ≠ i → V' j = V j) (hVi : V' i = some ob)
    (hob : ∃ obj, w'.heap[p.b]? = some obj ∧ OR β p obj ob) : Rep β V' w' where
  inb := fun j q h => by rw [hw.size]; exact hr.inb j q h
  obj := fun j q ob' h hv => by
    by_cases e : j = i
    · subst e
      rw [hp] at h; cases h
      rw [hVi] at hv; cases hv
      exact hob
    · rw [hV j e] at hv
      obtain ⟨o', h1, h2⟩ := hr.obj j q ob' h hv
      refine ⟨o', ?_, h2⟩
      rw [hw.other]
      · exact h1
      · intro eb
        exact e (hr.inj j i q p h hp (by rw [hv]; simp) hl eb)
  inj := fun j k q r h1 h2 h3 h4 h5 => by
    have nz : ∀ m, V' m ≠ none → V m ≠ none := fun m hm => by
      by_cases e : m = i
      · subst e; exact hl
      · rwa [hV m e] at hm
    exact hr.inj j k q r h1 h2 (nz j h3) (nz k h4) h5

theorem post_write [Sym] {i : Nat} {p : Pl} {ob : AObj} (hi : Inv N β L st w) (hp : β i = some p) (hl : st.mem.get i ≠ none) (hw : Wrote w w' p.b)
    (hob : ∃ obj, w'.heap[p.b]? = some obj ∧ OR β p obj ob) : Post st (st.write i (some ob)) β w β w' where
  ext := fun _ _ h => h
  dom := fun _ h => .inl h
  rep := rep_write hi.rep hp hl hw (fun j hj => by simp [St.write, Ne.symm hj]) (by simp [St.write]) hob
  frame := fun b hb => by
    by_cases e : b = p.b
    · subst e
      refine .inr ⟨i, p, hp, rfl, hl, ?_⟩
      by_cases hb : i < st.base
      · exact .inl (note_mem.2 (.inr ⟨rfl, hb⟩))
      · exact .inr (by omega)
    · exact .inl (hw.other b e)
  logd := fun j hj => by
    rcases note_mem.1 hj with h | ⟨rfl, h⟩
    · exact .inl h
    · exact .inr (by rw [hp]; simp)
  fresh := fun j q h1 h2 => by rw [h1] at h2; cases h2
  size := by rw [hw.size]; exact Nat.le_refl _
  os := hw.os
  tape := hw.tape
  output := hw.output

theorem splice_some {c c' vs : List Value} {k : Nat} (h : spliceE c k vs = some c') : k + vs.length ≤ c.length ∧ c' = c.take k ++ (vs ++ c.drop (k + vs.length)) := by
  unfold spliceE at h
  cases hb : Nat.ble (k + vs.length) c.length with
  | false => rw [hb] at h; cases h
  | true => rw [hb] at h; simp only [cond_true, Option.some.injEq] at h; exact ⟨by simpa using hb, h.symm⟩
theorem splice_get {c vs : List Value} {k : Nat} (hk : k + vs.length ≤ c.length) (j : Nat) :
    (c.take k ++ (vs ++ c.drop (k + vs.length)))[j]? = if k ≤ j ∧ j < k + vs.length then vs[j - k]? else c[j]? := by
  have h1 : (c.take k).length = k := by simp; omega
  by_cases a : j < k
  · rw [List.getElem?_append_left (by omega), List.getElem?_take_of_lt a, if_neg (by omega)]
  · rw [List.getElem?_append_right (by omega), h1]
    by_cases b : j < k + vs.length
    · rw [List.getElem?_append_left (by omega), if_pos (by omega)]
    · rw [List.getElem?_append_right (by omega), if_neg (by omega), List.getElem?_drop]
      congr 1; omega

/-- Stores into a row: the new object. -/
theorem OR_splice [Sym] {p : Pl} {c vs vs' : List Value} {z k : Nat} {arr arr' : Array Value} {T : TypeId} {fr : Nat × Nat} (hor : OR β p (.cells arr T fr) (.cells c z)) (hv : VRs β vs vs')
    (hk : k + vs.length ≤ c.length) (hs : arr'.size = arr.size) (hg : ∀ j, arr'[j]? = if p.o + k ≤ j ∧ j < p.o + k + vs'.length then vs'[j - (p.o + k)]? else arr[j]?) :
    OR β p (.cells arr' T fr) (.cells (c.take k ++ (vs ++ c.drop (k + vs.length))) z) := by
  obtain ⟨a1, T1, fr1, he, h2, h3, h4, h5, h6⟩ := hor
  cases he
  have hlen := hv.1
  refine ⟨arr', T, fr, rfl, by rw [hs]; exact h2, h3, ?_, h5, fun j v hj => ?_⟩
  · simp; omega
  · rw [splice_get hk] at hj
    rw [hg]
    by_cases a : k ≤ j ∧ j < k + vs.length
    · rw [if_pos a] at hj
      obtain ⟨y, hy, hr⟩ := hv.get hj
      refine ⟨y, ?_, hr⟩
      rw [if_pos (by omega), ← hy]
      congr 1; omega
    · rw [if_neg a] at hj
      obtain ⟨y, hy, hr⟩ := h6 j v hj
      exact ⟨y, by rw [if_neg (by omega)]; exact hy, hr⟩

theorem store_sound [Sym] {i k : Nat} {vs vs' : List Value} {p : Pl} {k' : Nat} (hi : Inv N β L st w) (h : storeE st i k vs = some st') (hp : β i = some p) (hv : VRs β vs vs') (hk : vs = [] ∨ k' = p.o + k) :
    ∃ w', (storeCells ⟨p.b, k', none⟩ vs').run P w = .ok () w' ∧ Post st st' β w β w' ∧ Mono st st' := by
  unfold storeE at h
  split at h
  · rename_i c z hm
    cases hone : vs.all one with
    | false => simp [hone] at h
    | true =>
      simp only [hone, cond_true, Option.map_eq_some_iff] at h
      obtain ⟨c', hc', rfl⟩ := h
      obtain ⟨hle, rfl⟩ := splice_some hc'
      obtain ⟨obj, hh, hor⟩ := hi.rep.obj i p _ hp hm
      have hor0 := hor
      obtain ⟨arr, T, fr, rfl, h2, h3, h4, h5, h6⟩ := hor0
      have hl : st.mem.get i ≠ none := by rw [hm]; simp
      have hil := wf_lt hi.wf hl
      rcases hk with rfl | rfl
      · have : vs' = [] := hv.of_nil
        subst this
        refine ⟨w, rfl, post_write hi hp hl (.refl w _) ⟨_, hh, ?_⟩, mono_write hil hl⟩
        simpa using hor
      · obtain ⟨w', arr', hr, hh', hs', hw', hg'⟩ := run_stores (P := P) (o := p.o + k) vs' 0 arr w hh (by rw [h2]; exact h5) (by have := hv.1; omega) (all_one_rel hv hone)
        exact ⟨w', hr, post_write hi hp hl hw' ⟨_, hh', OR_splice hor hv hle hs' (by simpa using hg')⟩, mono_write hil hl⟩
  · cases h
end
end Go.E
/- Operations that write, or call: sound. -/
set_option linter.unusedSimpArgs false
set_option linter.unusedVariables false
namespace Go.E
open Go

/-- Whatever the operation yields is of this kind. -/
def OpOk (P : Program) (o : Oper) (a : Act) (w : World) (G : Value → World → Prop) : Prop :=
  ∀ (K : Act → World → Prop) (Q : Exit → Act → World → Prop), (∀ v' w', G v' w' → K (a.put o.dst v') w') → o.wp P a w K Q

section
variable {P : Program} {L : Lk} {β : Emb} {st st' : St} {w : World} {o : Oper} {a : Act} {G : Value → World → Prop} {N : Nat}

theorem OpOk.value {v' : Value} {w' : World} (h : (execOp a.eval o).run P w = .ok (.value v') w') (hg : G v' w') : OpOk P o a w G := fun K Q hk => by
  unfold Oper.wp; rw [h]; exact hk _ _ hg
theorem OpOk.skip {w' : World} (h : (execOp a.eval o).run P w = .ok .skip w') (hg : G undef w') : OpOk P o a w G := fun K Q hk => by
  unfold Oper.wp; rw [h]; exact hk _ _ hg
theorem OpOk.enter {f : FuncId} {args : Array Value} {w' : World} (h : (execOp a.eval o).run P w = .ok (.enter f args) w') (hc : Calls P f args w' fun e w'' => ∃ v', e = .returned v' ∧ G v' w'') : OpOk P o a w G := fun K Q hk => by
  unfold Oper.wp; rw [h]
  exact hc.mono fun e w'' ⟨v', he, hg⟩ => by subst he; exact hk _ _ hg
theorem OpOk.mono {G' : Value → World → Prop} (h : OpOk P o a w G) (hg : ∀ v w, G v w → G' v w) : OpOk P o a w G' := fun K Q hk => h K Q fun v' w' hv => hk v' w' (hg v' w' hv)

theorem len_rel [Sym] {x x' : Value} {n : Nat} (h : lenE x = some n) (r : VR β x x') (w : World) : (Builtin.lenOf x').run P w = .ok n w := by
  unfold lenE at h
  split at h
  · cases h; cases r <;> rfl
  · cases h; cases r; rfl
  · cases h

theorem first_rel [Sym] (hi : Inv N β L st w) {sz n m : Nat} {x x' : Value} {new : List Value} (hm : lenE x = some m) (hnm : n ≤ m) (h : firstE st sz n x = some new) (r : VR β x x') :
    new.length = n * sz ∧ ∃ new', VRs β new new' ∧ ∀ w2, w2.heap = w.heap → (Builtin.firstCells sz n x').run P w2 = .ok new'.toArray w2 := by
  unfold firstE at h
  split at h
  · rename_i i k l c
    split at h
    · rename_i cs z hm'
      cases r with
      | slice hp hl hc hk hs =>
      rename_i k' c' p
      refine ⟨cut_len h, ?_⟩
      simp only [lenE, Option.some.injEq] at hm
      obtain ⟨obj, hh, hor⟩ := hi.rep.obj i p _ hp hm'
      rcases hk with h0 | h0
      · have hn : n = 0 := by omega
        subst hn
        have : new = [] := by have := cut_len h; simpa using this
        subst this
        refine ⟨[], VRs.nil, fun w2 _ => ?_⟩
        simp [Builtin.firstCells, loadCells, loadCellsFrom]
      · subst h0
        obtain ⟨d', hr, hc1, _⟩ := run_cut (P := P) hh hor.table h
        refine ⟨d', hr, fun w2 h2 => ?_⟩
        have hc2 : ∀ j v, d'[j]? = some v → w2.cell? (Addr.add ⟨p.b, p.o + k, none⟩ j) = some v := fun j v hv => by
          have := hc1 j v hv
          unfold World.cell? at this ⊢
          rw [h2]; exact this
        have := run_firstCells_some (P := P) w2 sz n ⟨p.b, p.o + k, none⟩ l c' d' (by rw [← hr.1]; exact cut_len h) hc2
        exact this
    · cases h
  · rename_i l c
    cases hb : Nat.beq n 0 with
    | false => rw [hb] at h; cases h
    | true =>
      rw [hb] at h
      simp only [cond_true, Option.some.injEq] at h
      subst h
      rw [beq_dec] at hb
      have hn : n = 0 := of_decide_eq_true hb
      subst hn
      refine ⟨by simp, [], VRs.nil, fun w2 _ => ?_⟩
      cases r
      exact run_firstCells_none w2 sz 0 _ _
  · rename_i s
    cases hb : Nat.beq sz 1 with
    | false => rw [hb] at h; cases h
    | true =>
      rw [hb] at h
      simp only [cond_true] at h
      rw [beq_dec] at hb
      have hz : sz = 1 := of_decide_eq_true hb
      subst hz
      refine ⟨by rw [cut_len h]; omega, new, ?_, fun w2 _ => ?_⟩
      · refine VRs.flat (p := flat1) (fun v => flat1_refl) fun v hv => ?_
        rcases cut_some h with ⟨_, rfl, _⟩ | ⟨rfl, _⟩
        · simp only [List.drop_zero] at hv
          have := List.mem_of_mem_take hv
          simp only [List.mem_map] at this
          obtain ⟨b, _, rfl⟩ := this
          rfl
        · simp at hv
      · cases r
        simp only [Builtin.firstCells, Sem.run_pure]
        congr 1
        apply Array.toList_inj.1
        simp only [lenE, Option.some.injEq] at hm
        rcases cut_some h with ⟨_, rfl, _⟩ | ⟨rfl, rfl⟩
        · simp [ByteArray.extract, ByteArray.copySlice, ByteArray.data_extract]
        · simp
  · cases h

theorem nextcap_le {need cap : Nat} (h : cap < need) : Builtin.nextslicecap need cap ≤ 2 * need := by
  unfold Builtin.nextslicecap
  split
  · omega
  · split
    · omega
    · rename_i h1 h2
      have key : ∀ r c, 256 ≤ need → c ≤ 2 * need → Builtin.growBy need r c ≤ 2 * need := by
        intro r
        induction r with
        | zero => intro c _ hc; exact hc
        | succ r ih =>
          intro c h3 hc
          unfold Builtin.growBy
          split
          · exact hc
          · exact ih _ h3 (by omega)
      exact key 4 cap (by omega) (by omega)

theorem zeroCells_size (z : Array Value) (n : Nat) : (Builtin.zeroCells z n).size = n * z.size := by simp [Builtin.zeroCells]
end
end Go.E
