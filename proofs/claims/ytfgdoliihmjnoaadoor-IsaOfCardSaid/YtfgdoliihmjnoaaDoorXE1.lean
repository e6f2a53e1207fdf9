/- An evaluator over the given code with an abstract memory: its definitions. Sound against the model: the texts behind this one. -/
import Derived.Calls
import Derived.Orders
import Derived.Below
set_option linter.unusedSimpArgs false
set_option linter.unusedVariables false
namespace Go.E

/-! ### A trie by the binary digits of a number -/
inductive PT (α : Type) where
  | nil
  | node (l : PT α) (v : Option α) (r : PT α)

/-- By the recursors themselves: the kernel is quick with them. -/
noncomputable def PT.get {α : Type} (t : PT α) : Nat → Option α :=
  @PT.rec α (fun _ => Nat → Option α) (fun _ => none)
    (fun _ v _ gl gr n => @Nat.rec (fun _ => Option α) v (fun k _ => @Bool.rec (fun _ => Option α) (gr (k / 2)) (gl (k / 2)) (Nat.beq (k % 2) 0)) n) t

theorem PT.get_nil' {α : Type} (n : Nat) : (PT.nil : PT α).get n = none := rfl
theorem PT.get_zero {α : Type} (l r : PT α) (v : Option α) : (PT.node l v r).get 0 = v := rfl
theorem PT.get_succ {α : Type} (l r : PT α) (v : Option α) (k : Nat) : (PT.node l v r).get (k + 1) = cond (Nat.beq (k % 2) 0) (l.get (k / 2)) (r.get (k / 2)) := by
  show @Bool.rec _ _ _ (Nat.beq (k % 2) 0) = _
  cases Nat.beq (k % 2) 0 <;> rfl

/-- A way of one leaf. -/
noncomputable def PT.sing {α : Type} (x : Option α) (f : Nat) : Nat → PT α :=
  @Nat.rec (fun _ => Nat → PT α) (fun _ => .nil)
    (fun _ ih n => @Nat.rec (fun _ => PT α) (.node .nil x .nil) (fun k _ => @Bool.rec (fun _ => PT α) (.node .nil none (ih (k / 2))) (.node (ih (k / 2)) none .nil) (Nat.beq (k % 2) 0)) n) f

noncomputable def PT.upd {α : Type} (t : PT α) (n : Nat) (x : Option α) : PT α :=
  @PT.rec α (fun _ => Nat → PT α) (fun n => PT.sing x (n + 1) n)
    (fun l v r ul ur n => @Nat.rec (fun _ => PT α) (.node l x r) (fun k _ => @Bool.rec (fun _ => PT α) (.node l v (ur (k / 2))) (.node (ul (k / 2)) v r) (Nat.beq (k % 2) 0)) n) t n

theorem PT.upd_nil {α : Type} (n : Nat) (x : Option α) : (PT.nil : PT α).upd n x = PT.sing x (n + 1) n := rfl
theorem PT.upd_zero {α : Type} (l r : PT α) (v x : Option α) : (PT.node l v r).upd 0 x = .node l x r := rfl
theorem PT.upd_succ {α : Type} (l r : PT α) (v x : Option α) (k : Nat) : (PT.node l v r).upd (k + 1) x = cond (Nat.beq (k % 2) 0) (.node (l.upd (k / 2) x) v r) (.node l v (r.upd (k / 2) x)) := by
  show @Bool.rec _ _ _ (Nat.beq (k % 2) 0) = _
  cases Nat.beq (k % 2) 0 <;> rfl
theorem PT.sing_zero {α : Type} (x : Option α) (f : Nat) : PT.sing x (f + 1) 0 = .node .nil x .nil := rfl
theorem PT.sing_succ {α : Type} (x : Option α) (f k : Nat) : PT.sing x (f + 1) (k + 1) = cond (Nat.beq (k % 2) 0) (.node (PT.sing x f (k / 2)) none .nil) (.node .nil none (PT.sing x f (k / 2))) := by
  show @Bool.rec _ _ _ (Nat.beq (k % 2) 0) = _
  cases Nat.beq (k % 2) 0 <;> rfl

theorem beq_dec (a b : Nat) : Nat.beq a b = decide (a = b) := by
  rw [Bool.eq_iff_iff]; simp [Nat.beq_eq]

theorem PT.get_sing {α : Type} (x : Option α) : ∀ (f n j : Nat), n < f → (PT.sing x f n).get j = if n = j then x else none := by
  intro f
  induction f with
  | zero => intro n j h; omega
  | succ f ih =>
    intro n j h
    cases n with
    | zero => cases j <;> simp [sing_zero, get_zero, get_succ, get_nil']
    | succ k =>
      have hk : k / 2 < f := by omega
      cases j with
      | zero => by_cases hb : k % 2 = 0 <;> simp [sing_succ, get_zero, beq_dec, hb]
      | succ m =>
        by_cases hb : k % 2 = 0 <;> by_cases hm : m % 2 = 0 <;> simp only [sing_succ, get_succ, get_nil', beq_dec, hb, hm, decide_true, decide_false, cond_true, cond_false, ih _ _ hk]
        · by_cases e : k = m
          · subst e; simp
          · rw [if_neg (by omega), if_neg (by omega)]
        · rw [if_neg (by omega)]
        · rw [if_neg (by omega)]
        · by_cases e : k = m
          · subst e; simp
          · rw [if_neg (by omega), if_neg (by omega)]

@[simp] theorem PT.get_upd {α : Type} (t : PT α) (n j : Nat) (x : Option α) : (t.upd n x).get j = if n = j then x else t.get j := by
  induction t generalizing n j with
  | nil => rw [upd_nil, get_sing x (n + 1) n j (by omega), get_nil']
  | node l v r ihl ihr =>
    cases n with
    | zero => cases j <;> simp [upd_zero, get_zero, get_succ]
    | succ k =>
      cases j with
      | zero => by_cases hb : k % 2 = 0 <;> simp [upd_succ, get_zero, beq_dec, hb]
      | succ m =>
        by_cases hb : k % 2 = 0 <;> by_cases hm : m % 2 = 0 <;> simp only [upd_succ, get_succ, beq_dec, hb, hm, decide_true, decide_false, cond_true, cond_false, ihl, ihr]
        · by_cases e : k = m
          · subst e; simp
          · rw [if_neg (by omega), if_neg (by omega)]
        · rw [if_neg (by omega)]
        · rw [if_neg (by omega)]
        · by_cases e : k = m
          · subst e; simp
          · rw [if_neg (by omega), if_neg (by omega)]
@[simp] theorem PT.get_nil {α : Type} (j : Nat) : (PT.nil : PT α).get j = none := rfl

/-! ### The abstract memory -/
inductive AObj where
  /-- a row of cells; z: the cells of one element, if slices of it may grow -/
  | cells (c : List Value) (z : Nat)
  | iter (s : ByteArray) (pos : Nat)
  /-- a row that is only read -/
  | table (c : List Value)

structure St where
  mem : PT AObj
  next : Nat
  base : Nat
  log : List Nat

def St.note (st : St) (i : Nat) : List Nat := cond (Nat.blt i st.base) (cond (st.log.contains i) st.log (i :: st.log)) st.log
noncomputable def St.write (st : St) (i : Nat) (ob : Option AObj) : St := { st with mem := st.mem.upd i ob, log := st.note i }
noncomputable def St.new (st : St) (ob : AObj) : St := { st with mem := st.mem.upd st.next (some ob), next := st.next + 1 }

/-- The temporaries of a call. -/
structure Tm where
  t : PT Value
  n : Nat

noncomputable def Tm.get (τ : Tm) (i : Nat) : Value := (τ.t.get i).getD undef
noncomputable def Tm.put (τ : Tm) (d : Option Tmp) (v : Value) : Tm :=
  match d with
  | none => τ
  | some d => cond (Nat.blt d τ.n) { τ with t := τ.t.upd d (some v) } τ

/-! ### Values without addresses -/
def flat1 : Value → Bool
  | .bool _ | .int _ _ | .float _ _ | .complex _ _ _ | .string _ | .pointer none | .slice none 0 0 | .map none | .chan none | .nilFunc | .nilIface => true
  | .func (.func _) a b => a.isEmpty && b.isEmpty
  | _ => false
def flat2 : Value → Bool
  | .agg cs => cs.toList.all flat1
  | v => flat1 v
def flat3 : Value → Bool
  | .iface _ v => flat2 v
  | .tuple vs => vs.toList.all flat2
  | v => flat2 v

/-- A call that is told by a contract with new memory: rows A to B are its own; 'tabs' must lie as they are told. -/
structure Con where
  A : Nat
  B : Nat
  tabs : List (Nat × AObj)
  objs : List (Nat × AObj)
  v : Value
def eqVs : List Value → List Value → Bool
  | [], [] => true
  | .int k n :: a, .int k' n' :: b => cond (decide (k = k')) (cond (decide (n = n')) (eqVs a b) false) false
  | _, _ => false
def eqTab : Option AObj → AObj → Bool
  | some (.table a), .table b => eqVs a b
  | _, _ => false
noncomputable def putAll : List (Nat × AObj) → PT AObj → PT AObj
  | [], m => m
  | x :: r, m => (putAll r m).upd x.1 (some x.2)

/-- What is looked up of a program: given apart, so that the lookups may be quick. -/
structure Lk where
  info : TypeId → Option TypeInfo
  und : TypeId → Option TypeDesc
  func : FuncId → Option (FuncId × Func)
  glob : Nat → Bool
  /-- calls that are told by a contract of their own: values without addresses in, one out -/
  ext : FuncId → List Value → Option Value
  con : FuncId → List Value → Nat → Option Con := fun _ _ _ => none
  /-- what is told of the values that stand for the law's arguments -/
  symOp : BinOp → TypeId → Value → Value → Option Value := fun _ _ _ _ => none
  symLen : Nat → Option Value := fun _ => none

def Lk.size (L : Lk) (t : TypeId) : Option Nat := (L.info t).map (·.size)

/-- A computation that only reckons. -/
def runPure {α : Type} (P : Program) : Sem α → Option α
  | .pure a => some a
  | .program k => runPure P (k P)
  | .mark _ k => runPure P k
  | _ => none

/-- A value of one cell. -/
def one : Value → Bool
  | .agg _ | .tuple _ => false
  | _ => true

def pureV (P : Program) (s : Sem Value) : Option Value := (runPure P s).bind fun v => cond (flat3 v) (some v) none

/-- Values that stand for others: row i of maps stands for 'Sym.v i'. -/
class Sym where
  v : Nat → Value
  ok : ∀ i, (∃ k n, v i = .int k n) ∨ ∃ s, v i = .string s
def desym [Sym] : Value → Value
  | .map (some i) => Sym.v i
  | v => v
def symOk : Value → Bool
  | .map (some _) => true
  | v => flat1 v

def asNat? : Value → Option Nat
  | .int _ n => if 0 ≤ n then some n.toNat else none
  | _ => none

/-- What may be read of a pointer's address. -/
def addr? : Value → Option (Nat × Nat)
  | .pointer (some ⟨i, k, none⟩) => some (i, k)
  | _ => none
def ptr (i k : Nat) : Value := .pointer (some ⟨i, k, none⟩)

def partE (L : Lk) (t : TypeId) (cs : Array Value) (off : Nat) : Option Value :=
  match L.und t with
  | some (.struct _) | some (.array _ _) => (L.size t).map fun s => .agg (cs.extract off (off + s))
  | some _ => cs[off]?
  | none => none

/-- A struct or an array out of its parts. -/
def builtE (L : Lk) (t : TypeId) (ps : List (Nat × Value)) : Option (Array Value) :=
  (L.info t).bind fun i => i.zero.bind fun zero => cond (flat2 zero) (match L.und t with
    | some (.struct fields) => (fields.toList.mapM fun f => (L.info f.type).map fun i => (f.offset, i.size)).bind fun places =>
      Instr.fill (places.toArray[·]?) zero.cells ps
    | some (.array _ e) => (L.info e).bind fun ie => Instr.fill (fun i => some (i * ie.size, ie.size)) zero.cells ps
    | _ => none) none

def eqNil (d : TypeDesc) : Value → Value → Option Bool
  | .pointer (some _), .pointer none | .pointer none, .pointer (some _) => match d with | .pointer _ => some false | _ => none
  | .slice (some _) _ _, .slice none _ _ | .slice none _ _, .slice (some _) _ _ => match d with | .slice _ => some false | _ => none
  | .iface _ _, .nilIface | .nilIface, .iface _ _ => match d with | .interface _ => some false | _ => none
  | _, _ => none

def isStringy (L : Lk) (t : TypeId) : Bool := match L.und t with | some .string => true | _ => false

def sliceE (n cap : Nat) (lo hi : Option Value) : Option (Nat × Nat) :=
  (match hi with | some v => asNat? v | none => some n).bind fun h => (match lo with | some v => asNat? v | none => some 0).bind fun l =>
    cond (Nat.ble h cap && Nat.ble l h) (some (l, h)) none

/-- Operations that only reckon. -/
def pureE (P : Program) (L : Lk) (ρ : Operand → Option Value) (o : Oper) : Option Value :=
  match o.op with
  | .move x | .assign x => ρ x
  | .pick c a b => (ρ c).bind fun c => match c with
    | .bool true => ρ a
    | .bool false => ρ b
    | _ => none
  | .build t parts => (parts.toList.mapM fun p => (ρ p.2).map fun v => (p.1, v)).bind fun ps => (builtE L t ps).map .agg
  | .nilCheck x => (ρ x).bind fun v => match v with
    | .pointer (some a) => some (.pointer (some a))
    | .func (.func f) xs ys => some (.func (.func f) xs ys)
    | _ => none
  | .binOp op t x y _ => (ρ x).bind fun a => (ρ y).bind fun b =>
      cond (flat2 a && flat2 b) (pureV P (do eqGuard op t x y a b; binOp op t a b))
        (match L.symOp op t a b with
        | some r => cond (symOk a && symOk b) (some r) none
        | none => (L.und t).bind fun d => (eqNil d a b).bind fun r => match op with
          | .eql => some (.bool r)
          | .neq => some (.bool !r)
          | _ => none)
  | .unOp op _ x => (ρ x).bind fun a => cond (flat1 a) (pureV P (Op.unary op a)) none
  | .convert src dst x => (ρ x).bind fun a => cond (flat1 a) (pureV P (convert src dst a)) none
  | .slice t x lo hi none => (ρ x).bind fun a => (match lo with | some v => (ρ v).map some | none => some none).bind fun lo =>
      (match hi with | some v => (ρ v).map some | none => some none).bind fun hi => match a with
      | .string s => match L.und t with
        | some .string => (sliceE s.size s.size lo hi).map fun (l, h) => .string (s.extract l h)
        | _ => none
      | .slice none 0 0 => match L.und t with
        | some (.slice e) => (L.size e).bind fun _ => (sliceE 0 0 lo hi).map fun _ => .slice none 0 0
        | _ => none
      | .pointer (some ⟨i, k, none⟩) => match L.und t with
        | some (.array n e) => (L.size e).bind fun size => (sliceE n n lo hi).map fun (l, h) => .slice (some ⟨i, cond (Nat.beq n l) k (k + l * size), none⟩) (h - l) (n - l)
        | _ => none
      | _ => none
  | .fieldAddr s x f => (ρ x).bind fun a => (addr? a).bind fun (i, k) => match L.und s with
    | some (.struct fields) => (fields[f]?).bind fun fd => (L.size fd.type).bind fun z => cond (Nat.beq z 0) none (some (ptr i (k + fd.offset)))
    | _ => none
  | .indexAddr t x ix => (ρ x).bind fun a => (ρ ix).bind fun v => (asNat? v).bind fun n => match L.und t, a with
    | some (.array len e), .pointer (some ⟨i, k, none⟩) => cond (Nat.blt n len) ((L.size e).map fun z => ptr i (k + n * z)) none
    | some (.slice e), .slice (some ⟨i, k, none⟩) len _ => cond (Nat.blt n len) ((L.size e).map fun z => ptr i (k + n * z)) none
    | _, _ => none
  | .field t x f => (ρ x).bind fun a => match L.und t, a with
    | some (.struct fields), .agg cs => (fields[f]?).bind fun fd => partE L fd.type cs fd.offset
    | _, _ => none
  | .index t x ix => (ρ x).bind fun a => (ρ ix).bind fun v => (asNat? v).bind fun n => match L.und t, a with
    | some (.array len e), .agg cs => cond (Nat.blt n len) ((L.size e).bind fun z => partE L e cs (n * z)) none
    | some .string, .string s => (s[n]?).map fun b => .int .u8 b.toNat
    | _, _ => none
  | .extract t ix => (ρ t).bind fun a => match a with
    | .tuple vs => vs[ix]?
    | _ => none
  | .makeInterface t x => (ρ x).bind fun a => match L.und t with
    | some (.interface _) | none => none
    | some _ => some (.iface t a)
  | .makeFunc (.func f) first captured => (first.toList.mapM ρ).bind fun xs => (captured.toList.mapM ρ).bind fun ys => some (.func (.func f) xs.toArray ys.toArray)
  | .call { callee := .builtin b, args, argTypes } => (args.toList.mapM ρ).bind fun vs =>
      match b, vs with
      | .len, [.map (some i)] => match (argTypes[0]?).bind L.und with | some .string => L.symLen i | _ => none
      | .len, [.slice _ n _] => match (argTypes[0]?).bind L.und with | some (.slice _) => some (goInt n) | _ => none
      | .len, [v] | .min, [v] | .max, [v] => cond (flat2 v) ((runPure P (builtin b argTypes o.type (args.map fun | .const _ => true | _ => false) #[v])).bind fun | .value v => cond (flat3 v) (some v) none | _ => none) none
      | .min, [.int k x, .int k' y] => if k = k' then some (.int k (if y < x then y else x)) else none
      | .max, [.int k x, .int k' y] => if k = k' then some (.int k (if y > x then y else x)) else none
      | _, _ => none
  | _ => none

/-- Operations that lay a new block, and read none. -/
def allocE (L : Lk) (ρ : Operand → Option Value) (o : Oper) : Option (AObj × (Nat → Value)) :=
  match o.op with
  | .alloc t => (L.info t).bind fun i => i.zero.bind fun zero => cond (flat2 zero) (some (.cells zero.cells.toList 0, fun n => ptr n 0)) none
  | .box _ x => (ρ x).map fun v => (.cells v.cells.toList 0, fun n => ptr n 0)
  | .buildSlice t len parts => (parts.toList.mapM fun p => (ρ p.2).map fun v => (p.1, v)).bind fun ps => match L.und t with
    | some (.slice e) => (L.info e).bind fun i => i.zero.bind fun zero =>
      cond (flat2 zero && Nat.ble (len * i.size) (2 ^ 24) && Nat.beq zero.cells.size i.size && Nat.blt 0 i.size)
        ((Instr.fill (fun j => some (j * i.size, i.size)) ((Array.range (len * i.size)).map (zero.cells[· % zero.cells.size]!)) ps).map fun cells =>
          (.cells cells.toList i.size, fun n => .slice (some ⟨n, 0, none⟩) len len)) none
    | _ => none
  | .makeSlice t len cap => (ρ len).bind fun l => (ρ cap).bind fun c => (asNat? l).bind fun l => (asNat? c).bind fun c => match L.und t with
    | some (.slice e) => (L.info e).bind fun i => i.zero.bind fun zero =>
      cond (flat2 zero && Nat.ble l c && Nat.ble c (2 ^ 40) && Nat.ble (c * i.bytes) (2 ^ 46) && Nat.beq zero.cells.size i.size && Nat.blt 0 i.size)
        (some (.cells ((Array.range (c * i.size)).map (zero.cells[· % zero.cells.size]!)).toList i.size, fun n => .slice (some ⟨n, 0, none⟩) l c)) none
    | _ => none
  | .convert src dst x => (ρ x).bind fun v => match L.und src, L.und dst, v with
    | some .string, some (.slice e), .string s => match L.und e with
      | some (.int .u8) => some (.cells (s.data.toList.map fun b => .int .u8 b.toNat) 1, fun n => .slice (some ⟨n, 0, none⟩) s.size s.size)
      | _ => none
    | _, _, _ => none
  | .range t x => (ρ x).bind fun v => match L.und t, v with
    | some .string, .string s => some (.iter s 0, fun n => ptr n 0)
    | _, _ => none
  | _ => none

/-- So many cells of a row. -/
def cut (c : List Value) (k n : Nat) : Option (List Value) :=
  let d := (c.drop k).take n
  cond (Nat.beq d.length n) (some d) none

def loadE (L : Lk) (t : TypeId) (k : Nat) (c : List Value) : Option Value :=
  match L.und t with
  | some (.struct _) | some (.array _ _) => (L.size t).bind fun n => (cut c k n).map fun d => .agg d.toArray
  | some _ => c[k]?
  | none => none

def bytesE : List Value → Option (List UInt8)
  | [] => some []
  | .int .u8 n :: r => (bytesE r).map (UInt8.ofNat n.toNat :: ·)
  | _ => none

/-- Operations that read one block, and write none. -/
def readE (L : Lk) (ρ : Operand → Option Value) (o : Oper) : Option (Nat × (AObj → Option Value)) :=
  match o.op with
  | .load t a => (ρ a).bind fun a => (addr? a).map fun (i, k) => (i, fun ob => match ob with | .cells c _ => loadE L t k c | .table c => loadE L t k c | _ => none)
  | .convert src dst x => (ρ x).bind fun v => match L.und src, L.und dst, v with
    | some (.slice e), some .string, .slice (some ⟨i, k, none⟩) n _ => match L.und e with
      | some (.int .u8) => some (i, fun ob => match ob with
        | .cells c _ => (cut c k n).bind fun d => (bytesE d).map fun l => .string ⟨l.toArray⟩
        | _ => none)
      | _ => none
    | _, _, _ => none
  | .slice t x lo hi none => (ρ x).bind fun a => (match lo with | some v => (ρ v).map some | none => some none).bind fun lo =>
      (match hi with | some v => (ρ v).map some | none => some none).bind fun hi => match a with
      | .slice (some ⟨i, k, none⟩) n cap => match L.und t with
        | some (.slice e) => (L.size e).bind fun size => (sliceE n cap lo hi).map fun (l, h) => (i, fun ob => match ob with
          | .cells _ z => cond (Nat.beq z size || Nat.beq z 0) (some (.slice (some ⟨i, cond (Nat.beq cap l) k (k + l * size), none⟩) (h - l) (cap - l))) none
          | _ => none)
        | _ => none
      | _ => none
  | _ => none

def spliceE (c : List Value) (k : Nat) (vs : List Value) : Option (List Value) :=
  cond (Nat.ble (k + vs.length) c.length) (some (c.take k ++ (vs ++ c.drop (k + vs.length)))) none

noncomputable def storeE (st : St) (i k : Nat) (vs : List Value) : Option St :=
  match st.mem.get i with
  | some (.cells c z) => cond (vs.all one) ((spliceE c k vs).map fun c' => st.write i (some (.cells c' z))) none
  | _ => none

/-- The first cells of what is appended or copied. -/
noncomputable def firstE (st : St) (sz n : Nat) : Value → Option (List Value)
  | .slice (some ⟨i, k, none⟩) _ _ => match st.mem.get i with
    | some (.cells c _) => cut c k (n * sz)
    | _ => none
  | .slice none _ _ => cond (Nat.beq n 0) (some []) none
  | .string s => cond (Nat.beq sz 1) (cut (s.data.toList.map fun b => .int .u8 b.toNat) 0 n) none
  | _ => none

def lenE : Value → Option Nat
  | .slice _ n _ => some n
  | .string s => some s.size
  | _ => none

noncomputable def appendE (L : Lk) (st : St) (t : TypeId) (xt : TypeId) (s x : Value) : Option (Value × St) :=
  match L.und t, L.und xt with
  | some (.slice _), some (.int _) => none
  | some (.slice e), some _ => (L.info e).bind fun i => i.zero.bind fun zero => (lenE x).bind fun n => match s with
    | .slice none 0 0 =>
      cond (Nat.beq n 0) (some (s, st))
        (cond (Nat.ble ((n + 1) * i.bytes) (2 ^ 44) && Nat.ble n (2 ^ 44) && Nat.blt 0 i.bytes && Nat.blt 0 i.size && Nat.beq zero.cells.size i.size && flat2 zero)
          ((firstE st i.size n x).bind fun new => some (.slice (some ⟨st.next, 0, none⟩) n n, st.new (.cells new i.size))) none)
    | .slice (some ⟨j, k, none⟩) len cap =>
      cond (Nat.beq n 0) (some (s, st))
        (cond (Nat.ble ((len + n + 1) * i.bytes) (2 ^ 44) && Nat.ble (len + n) (2 ^ 44) && Nat.blt 0 i.bytes && Nat.blt 0 i.size && Nat.beq zero.cells.size i.size && flat2 zero)
          (match st.mem.get j with
          | some (.cells c z) =>
            cond (Nat.beq z i.size && (Nat.blt cap (len + n) || Nat.ble (k + cap * i.size) c.length))
              ((cut c k (len * i.size)).bind fun old => (firstE st i.size n x).bind fun new =>
                cond (new.all one) (some (.slice (some ⟨st.next, 0, none⟩) (len + n) (len + n), (st.write j none).new (.cells (old ++ new) i.size))) none) none
          | _ => none) none)
    | _ => none
  | _, _ => none

inductive Kd where
  | blind
  | read (i : Nat)
  | gen

noncomputable def resultsE (L : Lk) (rs : List ResultVar) (τ : Tm) (st : St) : Option (List Value) :=
  rs.mapM fun
    | .tmp t => some (τ.get t)
    | .cell a t => (addr? (τ.get a)).bind fun (i, k) => match st.mem.get i with
      | some (.cells c _) => loadE L t k c
      | _ => none

def packE : List Value → Value
  | [v] => v
  | vs => .tuple vs.toArray

/-- Operations that write, or call. -/
noncomputable def genE (L : Lk) (callf : FuncId → List Value → St → Option (Value × St)) (ρ : Operand → Option Value) (o : Oper) (st : St) : Option (Value × St) :=
  match o.op with
  | .store t a x => (ρ a).bind fun a => (ρ x).bind fun v => (addr? a).bind fun (i, k) => (L.size t).bind fun n =>
      cond (Nat.beq v.cells.size n) ((storeE st i k v.cells.toList).map fun st => (undef, st)) none
  | .next it true => (ρ it).bind fun a => (addr? a).bind fun (i, k) => match k, st.mem.get i with
    | 0, some (.iter s pos) =>
      cond (Nat.blt pos s.size) (let d := Utf8.decode s pos; some (.tuple #[.bool true, goInt pos, .int .i32 d.1], st.write i (some (.iter s (pos + d.2)))))
        (some (.tuple #[.bool false], st))
    | _, _ => none
  | .call { callee := .value f, args, argTypes := _ } => (ρ f).bind fun f => (args.toList.mapM ρ).bind fun vs => match f with
    | .func (.func f) xs ys => callf f (xs.toList ++ vs ++ ys.toList) st
    | _ => none
  | .call { callee := .builtin b, args, argTypes } => (args.toList.mapM ρ).bind fun vs => match b, vs, argTypes.toList with
    | .append, [s, x], [t, xt] => appendE L st t xt s x
    | .copy, [d, x], [t, _] => match L.und t with
      | some (.slice e) => (L.size e).bind fun sz => (lenE x).bind fun n => match d with
        | .slice (some ⟨i, k, none⟩) len _ => (firstE st sz (Nat.min n len) x).bind fun new => (storeE st i k new).map fun st => (goInt (Nat.min n len), st)
        | .slice none 0 0 => some (goInt 0, st)
        | _ => none
      | _ => none
    | .clear, [x], [t] => match L.und t, x with
      | some _, .slice none _ _ | some _, .slice _ 0 _ => some (.tuple #[], st)
      | some (.slice e), .slice (some ⟨i, k, none⟩) n _ => (L.info e).bind fun inf => inf.zero.bind fun zero =>
        cond (flat2 zero) ((storeE st i k (Builtin.zeroCells zero.cells n).toList).map fun st => (.tuple #[], st)) none
      | _, _ => none
    | _, _, _ => none
  | _ => none

noncomputable def opE (P : Program) (L : Lk) (callf : FuncId → List Value → St → Option (Value × St)) (ρ : Operand → Option Value) (o : Oper) (st : St) : Option (Value × Kd × St) :=
  match pureE P L ρ o with
  | some v => some (v, .blind, st)
  | none => match allocE L ρ o with
    | some (ob, v) => some (v st.next, .blind, st.new ob)
    | none => match readE L ρ o with
      | some (i, g) => (st.mem.get i).bind fun ob => (g ob).map fun v => (v, .read i, st)
      | none => (genE L callf ρ o st).map fun (v, st) => (v, .gen, st)

noncomputable def rho (L : Lk) (τ : Tm) : Operand → Option Value
  | .tmp t => some (τ.get t)
  | .const v => cond (flat3 v) (some v) none
  | .global g => cond (L.glob g) (some (ptr g 0)) none
  | .func f => some (.func (.func f) #[] #[])

noncomputable def wantedE (ops : List Oper) (τ : Tm) (o : Oper) : Bool :=
  match o.guard with
  | none => true
  | some (j, want) => match ((ops[j]?).bind (·.dst)) with
    | some d => match τ.get d with
      | .bool b => b == want
      | _ => false
    | none => false

noncomputable def opsE (P : Program) (L : Lk) (callf : FuncId → List Value → St → Option (Value × St)) (ops : List Oper) : List Oper → Tm → St → Option (Tm × St)
  | [], τ, st => some (τ, st)
  | o :: rest, τ, st => cond (wantedE ops τ o)
      ((opE P L callf (rho L τ) o st).bind fun (v, _, st) => opsE P L callf ops rest (τ.put o.dst v) st)
      (opsE P L callf ops rest (τ.put o.dst undef) st)

/-! ### A region that draws its order -/
structure Rec where
  o : Oper
  preds : Nat       -- its place, and those ahead of it in every order: a set of bits
  log : List Nat
  kd : Kd

def binding (e : Edge) : Bool := match e.ground with | .textOnly _ | .gcOnly _ => false | _ => true

def predsE (recs : List Rec) (o : Oper) : Nat :=
  o.after.toList.foldl (fun m e => cond (binding e) (m ||| ((recs[e.on]?).map (·.preds)).getD 0) m) 0

def okPair (a b : Rec) : Bool :=
  (a.log.isEmpty || match b.kd with | .blind => true | .read i => !a.log.contains i | .gen => false) &&
  (b.log.isEmpty || match a.kd with | .blind => true | .read i => !b.log.contains i | .gen => false)

def okWith (ops : Array Oper) (recs : List Rec) (k : Nat) (r : Rec) : Bool :=
  match recs with
  | [] => true
  | x :: rest => (r.preds.testBit k || (okPair x r && x.o.apart ops r.o)) && (x.o.dst != r.o.dst || x.o.dst == none) && okWith ops rest (k + 1) r

noncomputable def drawE (P : Program) (L : Lk) (callf : FuncId → List Value → St → Option (Value × St)) (ops : Array Oper) : List Oper → List Rec → Tm → St → Option (Tm × St)
  | [], _, τ, st => some (τ, st)
  | o :: rest, recs, τ, st =>
    (cond (wantedE ops.toList τ o) (opE P L callf (rho L τ) o { st with base := st.next, log := [] }) (some (undef, .blind, { st with base := st.next, log := [] }))).bind fun (v, kd, st') =>
      let r : Rec := { o, preds := predsE recs o ||| (1 <<< recs.length), log := st'.log, kd }
      cond (okWith ops recs 0 r && o.after.all fun e => !binding e || Nat.blt e.on recs.length)
        (drawE P L callf ops rest (recs ++ [r]) (τ.put o.dst v) { st' with base := st.base, log := (st'.log.filter fun i => Nat.blt i st.base && !st.log.contains i) ++ st.log }) none

/-! ### The code -/
inductive Ex where
  | normal
  | exit (id : Nat)
  | ret

noncomputable def tmOf : List Value → Nat → PT Value → PT Value
  | [], _, t => t
  | v :: vs, i, t => tmOf vs (i + 1) (t.upd i (some v))

noncomputable def callE (L : Lk) (rec : Code → Tm → St → Option (Ex × Tm × St)) (f : FuncId) (args : List Value) (st : St) : Option (Value × St) :=
  match L.ext f args with
  | some v => some (v, st)
  | none => match L.con f args st.next with
  | some c => cond (Nat.ble st.next c.A && Nat.ble c.A c.B && c.objs.all (fun x => Nat.ble c.A x.1 && Nat.blt x.1 c.B) && c.tabs.all (fun x => L.glob x.1 && Nat.blt x.1 c.A && eqTab (st.mem.get x.1) x.2)) (some (c.v, { st with mem := putAll c.objs st.mem, next := c.B })) none
  | none => (L.func f).bind fun (_, fn) => fn.body.bind fun c =>
    cond (Nat.ble args.length fn.ntmps) ((rec c ⟨tmOf args 0 .nil, fn.ntmps⟩ st).bind fun (e, τ, st) => match e with
      | .exit _ => none
      | _ => (resultsE L fn.results.toList τ st).map fun vs => (packE vs, st)) none

noncomputable def codeE (P : Program) (L : Lk) : Nat → Code → Tm → St → Option (Ex × Tm × St)
  | 0, _, _, _ => none
  | n + 1, c, τ, st =>
    match c with
    | .skip | .label _ => some (.normal, τ, st)
    | .region _ ops false => (opsE P L (callE L (codeE P L n)) ops.toList ops.toList τ st).map fun (τ, st) => (.normal, τ, st)
    | .region _ ops true => (drawE P L (callE L (codeE P L n)) ops ops.toList [] τ st).map fun (τ, st) => (.normal, τ, st)
    | .seq a b => (codeE P L n a τ st).bind fun (e, τ, st) => match e with
      | .normal => codeE P L n b τ st
      | e => some (e, τ, st)
    | .cond c a b => (rho L τ c).bind fun v => match v with
      | .bool true => codeE P L n a τ st
      | .bool false => codeE P L n b τ st
      | _ => none
    | .block id body => (codeE P L n body τ st).bind fun (e, τ, st) => match e with
      | .exit id' => some (cond (Nat.beq id' id) .normal (.exit id'), τ, st)
      | e => some (e, τ, st)
    | .loop body => (codeE P L n body τ st).bind fun (e, τ, st) => match e with
      | .normal => codeE P L n (.loop body) τ st
      | e => some (e, τ, st)
    | .exit id => some (.exit id, τ, st)
    | .ret => some (.ret, τ, st)
    | _ => none

noncomputable def runE (P : Program) (L : Lk) (n : Nat) (f : FuncId) (args : List Value) (st : St) : Option (Value × St) := callE L (codeE P L n) f args st

structure Lk.Ok [Sym] (L : Lk) (P : Program) : Prop where
  info : ∀ t i, L.info t = some i → P.info? t = some i
  und : ∀ t d, L.und t = some d → P.underlying t = some d
  func : ∀ f j fn, L.func f = some (j, fn) → (∀ args w, (callFunc f args).run P w = .ok (.enter j args) w) ∧ P.funcs[j]? = some fn
  mixed : P.follows .mixedOrders = true
  ext : ∀ f vs v, L.ext f vs = some v → (∀ x ∈ vs, flat3 x = true) ∧ flat3 v = true ∧ ∀ w,
    (∃ j, (∀ as w, (callFunc f as).run P w = .ok (.enter j as) w) ∧ Calls P j vs.toArray w fun e w' => e = .returned v ∧ RowKit.Below w.heap.size w w') ∨ (callFunc f vs.toArray).run P w = .ok (.value v) w
  symOp : ∀ op t a b r, L.symOp op t a b = some r → ∀ x y, pureV P (do eqGuard op t x y (desym a) (desym b); binOp op t (desym a) (desym b)) = some r
  symLen : ∀ i r, L.symLen i = some r → symOk r = true ∧ ∃ s, Sym.v i = .string s ∧ desym r = goInt s.size

end Go.E
