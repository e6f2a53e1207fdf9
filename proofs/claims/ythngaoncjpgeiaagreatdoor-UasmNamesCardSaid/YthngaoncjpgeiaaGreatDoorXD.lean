/- An evaluator over the given code, and its soundness. -/
import Derived.Test.YthngaoncjpgeiaaGreatDoorXC
/- The second evaluator: by continuations, so that values may hold variables; calls and loops are told by parameters. Its definitions. -/
set_option linter.unusedSimpArgs false
set_option linter.unusedVariables false
namespace Go.E
open Go

/-- A state: the memory, the next number, and the bound from which on it may be written. -/
structure SS where
  mem : PT AObj
  next : Nat
  lim : Nat

noncomputable def SS.new (st : SS) (ob : AObj) : SS := ⟨st.mem.upd st.next (some ob), st.next + 1, st.lim⟩
noncomputable def SS.set (st : SS) (i : Nat) (ob : Option AObj) : SS := ⟨st.mem.upd i ob, st.next, st.lim⟩
/-- With another bound. -/
def SS.ro (st : SS) (l : Nat) : SS := ⟨st.mem, st.next, l⟩
/-- With another next number. -/
def SS.adv (st : SS) (n : Nat) : SS := ⟨st.mem, n, st.lim⟩

/-! ### Shapes -/
def asI (k : IntKind) : Value → Option Int
  | .int k' n => cond (Nat.beq (kn k) (kn k')) (some n) none
  | _ => none
def asB : Value → Option Bool
  | .bool b => some b
  | _ => none
def asS : Value → Option ByteArray
  | .string s => some s
  | _ => none
inductive Sh where
  | int (k : IntKind)
  | bool
  | str
  | any
def Sh.of : TypeDesc → Sh
  | .int k => .int k
  | .bool => .bool
  | .string => .str
  | _ => .any
def Lk.sh (L : Lk) (t : TypeId) : Sh := match L.und t with
  | some d => Sh.of d
  | none => .any
/-- A value is looked at by its shape: so that it stands there with its constructor. -/
def withSh {α : Type} (s : Sh) (ov : Option Value) (K : Value → Option α) : Option α := match s with
  | .int k => (ov.bind (asI k)).bind fun n => K (.int k n)
  | .bool => (ov.bind asB).bind fun b => K (.bool b)
  | .str => (ov.bind asS).bind fun s => K (.string s)
  | .any => ov.bind K

/-! ### What operations come to -/
def bl (s : ByteArray) : List UInt8 := s.data.toList
def shlI (k : IntKind) (x y : Int) : Int := k.wrap (x * 2 ^ (min y.toNat k.bits))
def shrI (k : IntKind) (x y : Int) : Int := x.fdiv (2 ^ (min y.toNat k.bits))
def andI (k : IntKind) (x y : Int) : Int := k.wrap ((BitVec.ofInt k.bits x &&& BitVec.ofInt k.bits y).toNat : Nat)
def orI (k : IntKind) (x y : Int) : Int := k.wrap ((BitVec.ofInt k.bits x ||| BitVec.ofInt k.bits y).toNat : Nat)
def xorI (k : IntKind) (x y : Int) : Int := k.wrap ((BitVec.ofInt k.bits x ^^^ BitVec.ofInt k.bits y).toNat : Nat)
def andNotI (k : IntKind) (x y : Int) : Int := k.wrap ((BitVec.ofInt k.bits x &&& ~~~ (BitVec.ofInt k.bits y)).toNat : Nat)
def aI (op : BinOp) (k : IntKind) (a b : Int) : Option Value := match op with
  | .add => some (.int k (k.wrap (a + b)))
  | .sub => some (.int k (k.wrap (a - b)))
  | .mul => some (.int k (k.wrap (a * b)))
  | .quo => cond (decide (b = 0)) none (some (.int k (k.wrap (a.tdiv b))))
  | .rem => cond (decide (b = 0)) none (some (.int k (a.tmod b)))
  | .and => some (.int k (andI k a b))
  | .or => some (.int k (orI k a b))
  | .xor => some (.int k (xorI k a b))
  | .andNot => some (.int k (andNotI k a b))
  | .shl => cond (decide (b < 0)) none (some (.int k (shlI k a b)))
  | .shr => cond (decide (b < 0)) none (some (.int k (shrI k a b)))
  | .lss => some (.bool (decide (a < b)))
  | .leq => some (.bool (decide (a ≤ b)))
  | .gtr => some (.bool (decide (b < a)))
  | .geq => some (.bool (decide (b ≤ a)))
  | .eql => some (.bool (decide (a = b)))
  | .neq => some (.bool (!decide (a = b)))
def catS (a b : ByteArray) : Option ByteArray := cond (Nat.ble (a.size + b.size) 9223372036854775807) (some (a ++ b)) none
def ltT (a b : ByteArray) : Bool := Op.bytesLess a.data.toList b.data.toList
def sS (op : BinOp) (a b : ByteArray) : Option Value := match op with
  | .add => (catS a b).bind fun s => some (.string s)
  | .lss => some (.bool (ltT a b))
  | .leq => some (.bool (ltT a b || eqT a b))
  | .gtr => some (.bool (!(ltT a b || eqT a b)))
  | .geq => some (.bool (!ltT a b))
  | _ => none
def isNilP : Value → Option Bool
  | .pointer none => some true
  | .pointer (some _) => some false
  | _ => none
def isNilS : Value → Option Bool
  | .slice none 0 0 => some true
  | .slice (some _) _ _ => some false
  | _ => none
def isNilI : Value → Option Bool
  | .nilIface => some true
  | .iface _ _ => some false
  | _ => none
def constP : Operand → Bool
  | .const (.pointer none) => true
  | _ => false
def constS : Operand → Bool
  | .const (.slice none 0 0) => true
  | _ => false
def constI : Operand → Bool
  | .const .nilIface => true
  | _ => false
/-- Are two values of a type the same, part by part? -/
def eqFs (eq : TypeId → Value → Value → Option Bool) (L : Lk) (xs ys : Array Value) : List Field → Option Bool
  | [] => some true
  | f :: fs => (partE L f.type xs f.offset).bind fun p => (partE L f.type ys f.offset).bind fun q => (eq f.type p q).bind fun r => (eqFs eq L xs ys fs).bind fun s => some (r && s)
def eqEs (eq : Value → Value → Option Bool) (L : Lk) (e z : Nat) (xs ys : Array Value) : (left : Nat) → (i : Nat) → Option Bool
  | 0, _ => some true
  | n + 1, i => (partE L e xs (i * z)).bind fun p => (partE L e ys (i * z)).bind fun q => (eq p q).bind fun r => (eqEs eq L e z xs ys n (i + 1)).bind fun s => some (r && s)
def eqD (P : Program) (L : Lk) : Nat → TypeId → Value → Value → Option Bool
  | 0, _, _, _ => none
  | d + 1, t, a, b => match L.und t with
    | some (.int k) => (asI k a).bind fun x => (asI k b).bind fun y => some (decide (x = y))
    | some .bool => (asB a).bind fun x => (asB b).bind fun y => some (x == y)
    | some .string => (asS a).bind fun x => (asS b).bind fun y => some (eqT x y)
    | some (.struct fs) => (match a, b with
      | .agg xs, .agg ys => cond ((fs.toList.all fun f => f.name != "_") && !P.stoodInHeld t) (eqFs (eqD P L d) L xs ys fs.toList) none
      | _, _ => none)
    | some (.array n e) => (match a, b with
      | .agg xs, .agg ys => (L.size e).bind fun z => eqEs (eqD P L d e) L e z xs ys n 0
      | _, _ => none)
    | _ => none
/-- Are two structs, or arrays, the same? -/
def eqA (P : Program) (L : Lk) (t : TypeId) (a b : Value) : Option Bool := match a, b with
  | .agg xs, .agg ys => cond (flat2 (.agg xs) && flat2 (.agg ys) && !(P.eqGuardType P.depth t)) (eqD P L 20 t (.agg xs) (.agg ys)) none
  | _, _ => none
def eqS (P : Program) (L : Lk) (x y : Operand) (t : TypeId) (a b : Value) : Option Bool := match L.und t with
  | some (.int k) => (asI k a).bind fun x => (asI k b).bind fun y => some (decide (x = y))
  | some .bool => (asB a).bind fun x => (asB b).bind fun y => some (x == y)
  | some .string => (asS a).bind fun x => (asS b).bind fun y => some (eqT x y)
  | some (.struct _) | some (.array _ _) => eqA P L t a b
  | some (.pointer _) => cond (constP y) (isNilP a) (cond (constP x) (isNilP b) none)
  | some (.slice _) => cond (constS y) (isNilS a) (cond (constS x) (isNilS b) none)
  | some (.interface _) => cond (constI y) (isNilI a) (cond (constI x) (isNilI b) none)
  | _ => none
def binS (P : Program) (L : Lk) (x y : Operand) (op : BinOp) (t : TypeId) (a b : Value) : Option Value := match op with
  | .eql => (eqS P L x y t a b).bind fun r => some (.bool r)
  | .neq => (eqS P L x y t a b).bind fun r => some (.bool !r)
  | op => match L.und t with
    | some (.int k) => (match op with
      | .shl | .shr => (asI k a).bind fun n => (match b with
        | .int _ m => aI op k n m
        | _ => none)
      | _ => (asI k a).bind fun n => (asI k b).bind fun m => aI op k n m)
    | some .string => (asS a).bind fun p => (asS b).bind fun q => sS op p q
    | _ => none
def shBin (L : Lk) (op : BinOp) (t : TypeId) : Sh := match op with
  | .eql | .neq | .lss | .leq | .gtr | .geq => .bool
  | _ => L.sh t
def nilC : Value → Option Value
  | .pointer (some a) => some (.pointer (some a))
  | .func (.func f) xs ys => some (.func (.func f) xs ys)
  | _ => none
/-- The cells of a value, which are so many. -/
def cellsN (v : Value) (n : Nat) : Option (List Value) := cond (Nat.beq v.cells.size n) (some v.cells.toList) none
def spl (l : List Value) (off : Nat) (c : List Value) : List Value := l.take off ++ (c ++ l.drop (off + c.length))
def buildS {α : Type} (ρ : Operand → Option Value) (pl : Nat → Option (Nat × Nat)) : List (Nat × Operand) → List Value → (List Value → Option α) → Option α
  | [], l, K => K l
  | x :: r, l, K => (ρ x.2).bind fun v => (pl x.1).bind fun os => (cellsN v os.2).bind fun c => buildS ρ pl r (spl l os.1 c) K
def partsS {α : Type} (ρ : Operand → Option Value) (z : Nat) : List (Nat × Operand) → Nat → (List Value → Option α) → Option α
  | [], _, K => K []
  | x :: r, i, K => cond (Nat.beq x.1 i) ((ρ x.2).bind fun v => (cellsN v z).bind fun c => partsS ρ z r (i + 1) fun l => K (c ++ l)) none
def fieldPl (L : Lk) (fields : Array Field) (i : Nat) : Option (Nat × Nat) := (fields[i]?).bind fun f => (L.size f.type).bind fun z => some (f.offset, z)
/-- A bound of a slice expression. -/
def asN : Value → Option Int
  | .int _ n => some n
  | _ => none
def boundS (ρ : Operand → Option Value) (d : Int) : Option Operand → Option Int
  | none => some d
  | some x => (ρ x).bind asN
def subS (s : ByteArray) (l h : Int) : Option ByteArray := cond (decide (0 ≤ l) && decide (l ≤ h) && decide (h ≤ (s.size : Int))) (some (s.extract l.toNat h.toNat)) none
def idxS (s : ByteArray) (n : Int) : Option Value := cond (decide (0 ≤ n)) ((bl s)[n.toNat]?.map fun b => .int .u8 b.toNat) none
def tupG (v : Value) (i : Nat) : Option Value := match v with
  | .tuple vs => vs[i]?
  | _ => none
def fldG (L : Lk) (t : TypeId) (f : Nat) (v : Value) : Option Value := match L.und t with
  | some (.struct fields) => (match v with
    | .agg cs => (fields[f]?).bind fun fd => partE L fd.type cs fd.offset
    | _ => none)
  | _ => none
def aggI (L : Lk) (len e : Nat) (v : Value) (n : Int) : Option Value := cond (decide (0 ≤ n) && decide (n < (len : Int))) (match v with
  | .agg cs => (L.size e).bind fun z => partE L e cs (n.toNat * z)
  | _ => none) none
def lenV : Value → Option Value
  | .slice _ n _ => some (.int .i64 (n : Int))
  | _ => none
/-- The place of a slice's element, or an array's. -/
def elemS (v : Value) (n : Int) (z : Nat) : Option (Nat × Nat) := match v with
  | .slice (some ⟨i, k, none⟩) len _ => cond (decide (0 ≤ n) && decide (n < (len : Int))) (some (i, k + n.toNat * z)) none
  | _ => none
def elemA (v : Value) (len : Nat) (n : Int) (z : Nat) : Option (Nat × Nat) := match v with
  | .pointer (some ⟨i, k, none⟩) => cond (decide (0 ≤ n) && decide (n < (len : Int))) (some (i, k + n.toNat * z)) none
  | _ => none

noncomputable def SS.ld (st : SS) (i k : Nat) : Option Value := (st.mem.get i).bind fun ob => match ob with
  | .cells c _ => c[k]?
  | .table c => c[k]?
  | _ => none
noncomputable def SS.ldN (st : SS) (i k n : Nat) : Option Value := (st.mem.get i).bind fun ob => match ob with
  | .cells c _ => (cut c k n).map fun d => .agg d.toArray
  | .table c => (cut c k n).map fun d => .agg d.toArray
  | _ => none
noncomputable def SS.loadT (L : Lk) (st : SS) (t : TypeId) (i k : Nat) : Option Value := match L.und t with
  | some (.struct _) | some (.array _ _) => (L.size t).bind fun n => st.ldN i k n
  | some _ => st.ld i k
  | none => none
/-- Likewise of a block that is no table. -/
noncomputable def SS.rd (st : SS) (i k : Nat) : Option Value := (st.mem.get i).bind fun ob => match ob with
  | .cells c _ => c[k]?
  | _ => none
noncomputable def SS.rdN (st : SS) (i k n : Nat) : Option Value := (st.mem.get i).bind fun ob => match ob with
  | .cells c _ => (cut c k n).map fun d => .agg d.toArray
  | _ => none
noncomputable def SS.readT (L : Lk) (st : SS) (t : TypeId) (i k : Nat) : Option Value := match L.und t with
  | some (.struct _) | some (.array _ _) => (L.size t).bind fun n => st.rdN i k n
  | some _ => st.rd i k
  | none => none
noncomputable def SS.st (s : SS) (i k : Nat) (vs : List Value) : Option SS := cond (Nat.ble s.lim i) ((s.mem.get i).bind fun ob => match ob with
  | .cells c z => cond (vs.all one) ((spliceE c k vs).map fun c' => s.set i (some (.cells c' z))) none
  | _ => none) none
noncomputable def SS.stV (s : SS) (i k n : Nat) (v : Value) : Option SS := cond (Nat.beq v.cells.size n) (s.st i k v.cells.toList) none

/-- A slice of a slice. -/
noncomputable def SS.resl (st : SS) (v : Value) (size : Nat) (l h : Int) : Option Value := match v with
  | .slice none 0 0 => cond (decide (l = 0) && decide (h = 0)) (some (.slice none 0 0)) none
  | .slice (some ⟨i, k, none⟩) n cap => cond (decide (0 ≤ l) && decide (l ≤ h) && decide (h ≤ (cap : Int))) ((st.mem.get i).bind fun ob => match ob with
    | .cells _ z => cond (Nat.beq z size || Nat.beq z 0) (some (.slice (some ⟨i, cond (Nat.beq cap l.toNat) k (k + l.toNat * size), none⟩) (h.toNat - l.toNat) (cap - l.toNat))) none
    | _ => none) none
  | _ => none
def sliceLen : Value → Option Int
  | .slice _ n _ => some (n : Int)
  | _ => none
def arrSl (i k n size : Nat) (l h : Int) : Option Value := cond (decide (0 ≤ l) && decide (l ≤ h) && decide (h ≤ (n : Int)))
  (some (.slice (some ⟨i, cond (Nat.beq n l.toNat) k (k + l.toNat * size), none⟩) (h.toNat - l.toNat) (n - l.toNat))) none
noncomputable def SS.bytes (st : SS) (v : Value) : Option ByteArray := match v with
  | .slice none 0 0 => some ⟨#[]⟩
  | .slice (some ⟨i, k, none⟩) n _ => (st.mem.get i).bind fun ob => match ob with
    | .cells c _ => (cut c k n).bind fun d => (bytesE d).map fun l => ⟨l.toArray⟩
    | _ => none
  | _ => none
noncomputable def SS.iterG (st : SS) (i : Nat) : Option (ByteArray × Nat) := (st.mem.get i).bind fun ob => match ob with
  | .iter s p => some (s, p)
  | _ => none
noncomputable def SS.mapF (st : SS) (m : Value) (k : ByteArray) : Option (Option Value) := match m with
  | .map (some i) => (st.mem.get i).bind fun ob => match ob with
    | .map l => some (findM k l)
    | _ => none
  | _ => none
noncomputable def SS.mapP (st : SS) (m : Value) (k : ByteArray) (v : Value) : Option SS := match m with
  | .map (some i) => cond (Nat.ble st.lim i) ((st.mem.get i).bind fun ob => match ob with
    | .map l => some (st.set i (some (.map (setM k v l))))
    | _ => none) none
  | _ => none
def optE {α β : Type} (r : Option α) (n : β) (s : α → β) : β := match r with
  | none => n
  | some x => s x
noncomputable def SS.first (st : SS) (sz n : Nat) : Value → Option (List Value)
  | .slice (some ⟨i, k, none⟩) _ _ => (st.mem.get i).bind fun ob => match ob with
    | .cells c _ => cut c k (n * sz)
    | _ => none
  | .slice none _ _ => cond (Nat.beq n 0) (some []) none
  | .string s => cond (Nat.beq sz 1) (cut (s.data.toList.map fun b => .int .u8 b.toNat) 0 n) none
  | _ => none
/-- Append to a slice: elements of so many cells and bytes. -/
noncomputable def SS.app (st : SS) (sz by' : Nat) (s x : Value) : Option (Value × SS) := (lenE x).bind fun n => match s with
  | .slice none 0 0 =>
    cond (Nat.beq n 0) (some (s, st))
      (cond (Nat.ble ((n + 1) * by') (2 ^ 44) && Nat.ble n (2 ^ 44))
        ((st.first sz n x).bind fun new => some (.slice (some ⟨st.next, 0, none⟩) n n, st.new (.cells new sz))) none)
  | .slice (some ⟨j, k, none⟩) len cap =>
    cond (Nat.beq n 0) (some (s, st))
      (cond (Nat.ble ((len + n + 1) * by') (2 ^ 44) && Nat.ble (len + n) (2 ^ 44) && Nat.ble st.lim j)
        ((st.mem.get j).bind fun ob => match ob with
        | .cells c z =>
          cond (Nat.beq z sz && (Nat.blt cap (len + n) || Nat.ble (k + cap * sz) c.length))
            ((cut c k (len * sz)).bind fun old => (st.first sz n x).bind fun new =>
              cond (new.all one) (some (.slice (some ⟨st.next, 0, none⟩) (len + n) (len + n), (st.set j none).new (.cells (old ++ new) sz))) none) none
        | _ => none) none)
  | _ => none
/-- Copy. -/
noncomputable def SS.cpy (st : SS) (sz : Nat) (d x : Value) : Option (Value × SS) := (lenE x).bind fun n => match d with
  | .slice (some ⟨i, k, none⟩) len _ => (st.first sz (Nat.min n len) x).bind fun new => (st.st i k new).map fun st => (.int .i64 (Nat.min n len : Nat), st)
  | .slice none 0 0 => some (.int .i64 0, st)
  | _ => none
noncomputable def SS.clr (st : SS) (zero : List Value) (x : Value) : Option SS := match x with
  | .slice none _ _ | .slice _ 0 _ => some st
  | .slice (some ⟨i, k, none⟩) n _ => st.st i k (Builtin.zeroCells zero.toArray n).toList
  | _ => none
/-- New elements, all noughts. -/
def zerosS (zero : List Value) (n : Int) : List Value := ((Array.range (n.toNat * zero.length)).map (zero.toArray[· % zero.length]!)).toList
def mkLen (n c : Int) (bytes : Nat) : Option Unit := cond (decide (0 ≤ n) && decide (n ≤ c) && decide (c ≤ 1099511627776) && decide (c * (bytes : Int) ≤ 70368744177664)) (some ()) none

/-! ### Loops -/
structure LoopI where
  ins : List (Tmp × Sh)
  exits : List (Ex × List (Tmp × Sh))
def firstReg : Code → Nat
  | .region id _ _ => id
  | .seq a _ => firstReg a
  | .block _ b => firstReg b
  | .loop b => firstReg b
  | _ => 0
def loopsOf : Code → List Code
  | .seq a b => loopsOf a ++ loopsOf b
  | .cond _ a b => loopsOf a ++ loopsOf b
  | .block _ b => loopsOf b
  | .loop b => b :: loopsOf b
  | _ => []

/-- A function's loop, by the number of its first region. -/
def loopC (fn : Func) (key : Nat) : Code := match fn.body with
  | none => .skip
  | some c => match (loopsOf c).filter fun b => Nat.beq (firstReg b) key with
    | [b] => b
    | _ => .skip
def noLi : Nat → Option LoopI := fun _ => none

/-- The temporaries that are told. -/
noncomputable def Tm.get? (τ : Tm) (i : Nat) : Option Value := τ.t.get i
noncomputable def pickT (τ : Tm) : List (Tmp × Sh) → Option (List Value)
  | [] => some []
  | x :: r => (τ.get? x.1).bind fun v => (pickT τ r).bind fun vs => some (v :: vs)
noncomputable def placeT {α : Type} (vs : List Value) : List (Tmp × Sh) → Nat → Tm → (Tm → Option α) → Option α
  | [], _, τ, K => K τ
  | x :: r, i, τ, K => withSh x.2 (vs[i]?) fun v => placeT vs r (i + 1) (τ.put (some x.1) v) K
/-- Values at their places, as they are. -/
noncomputable def placeV : List (Tmp × Sh) → List Value → PT Value → PT Value
  | x :: r, v :: vs, t => placeV r vs (t.upd x.1 (some v))
  | _, _, t => t
def exBeq : Ex → Ex → Bool
  | .normal, .normal => true
  | .ret, .ret => true
  | .exit i, .exit j => Nat.beq i j
  | _, _ => false
def findEx (e : Ex) : List (Ex × List (Tmp × Sh)) → Nat → Option (Nat × List (Tmp × Sh))
  | [], _ => none
  | x :: r, i => cond (exBeq e x.1) (some (i, x.2)) (findEx e r (i + 1))
/-- Are the places of a loop's values apart? -/
def apartI : List (Tmp × Sh) → Bool
  | [] => true
  | x :: r => (r.all fun y => !Nat.beq x.1 y.1) && apartI r
abbrev CallS := FuncId → List Value → SS → Option (Value × SS)
abbrev LoopS := Nat → List Value → SS → Option (Nat × List Value × SS)
def exitsS {α : Type} (n : Nat) (K : Ex → List (Tmp × Sh) → Option α) : List (Ex × List (Tmp × Sh)) → Nat → Option α
  | [], _ => none
  | [x], _ => K x.1 x.2
  | x :: y :: r, i => cond (Nat.beq n i) (K x.1 x.2) (exitsS n K (y :: r) (i + 1))

/-! ### Regions that draw their order -/
def strT (L : Lk) (t : TypeId) : Bool := match L.und t with
  | some .string => true
  | some (.array _ _) => true
  | _ => false
def intT (L : Lk) (t : TypeId) : Bool := match L.und t with
  | some (.int _) => true
  | _ => false
/-- Operations that look at no memory. -/
def blindOp (L : Lk) : Op → Bool
  | .move _ | .assign _ | .pick _ _ _ | .alloc _ | .box _ _ | .build _ _ | .buildSlice _ _ _ | .nilCheck _ | .binOp _ _ _ _ _ | .unOp _ _ _ | .makeInterface _ _ | .makeFunc _ _ _ | .fieldAddr _ _ _ | .field _ _ _
  | .indexAddr _ _ _ | .index _ _ _ | .extract _ _ | .makeSlice _ _ _ | .range _ _ | .makeMap _ _ => true
  | .slice t _ _ _ _ => strT L t
  | .convert s d _ => intT L s && intT L d
  | .call { callee := .builtin .len, .. } => true
  | .call { callee := .builtin .min, .. } => true
  | .call { callee := .builtin .max, .. } => true
  | _ => false
/-- Operations that may write. -/
def genOp : Op → Bool
  | .store _ _ _ | .next _ _ | .mapUpdate _ _ _ _ => true
  | .call { callee := .value _, .. } => true
  | .call { callee := .builtin .append, .. } => true
  | .call { callee := .builtin .copy, .. } => true
  | .call { callee := .builtin .clear, .. } => true
  | _ => false
def predS (ps : List Nat) (o : Oper) : Nat := o.after.toList.foldl (fun m e => cond (binding e) (m ||| (ps[e.on]?).getD 0) m) 0
def predsL : List Oper → List Nat → List Nat
  | [], ps => ps
  | o :: r, ps => predsL r (ps ++ [predS ps o ||| (1 <<< ps.length)])
/-- Must an operation write nothing old: is there one that is not ordered with it, and may look at the memory? -/
def partner (ps : List Nat) (j k : Nat) : Bool := cond (Nat.blt k j) (!((ps[j]?).getD 0).testBit k) (!((ps[k]?).getD 0).testBit j)
def mustRo (L : Lk) (ops : List Oper) (ps : List Nat) (j : Nat) : Bool := (match ops[j]? with
  | some o => genOp o.op
  | none => false) && (List.range ops.length).any fun k => !(Nat.beq k j) && partner ps j k && match ops[k]? with
  | some o => !blindOp L o.op
  | none => false
def pairOk (ops : Array Oper) (ps : List Nat) (a b : Oper) (k j : Nat) : Bool := (((ps[j]?).getD 0).testBit k || a.apart ops b) && (a.dst != b.dst || a.dst == none)
def drawOk (ops : Array Oper) : Bool :=
  let l := ops.toList
  let ps := predsL l []
  (List.range l.length).all fun j => match l[j]? with
    | some b => (b.after.all fun e => !binding e || Nat.blt e.on j) && (List.range j).all fun k => match l[k]? with
      | some a => pairOk ops ps a b k j
      | none => false
    | none => false
def roL (L : Lk) (ops : List Oper) : List Bool := let ps := predsL ops []; (List.range ops.length).map fun j => mustRo L ops ps j

/-! ### Operations -/
section
variable {α : Type}
noncomputable def rhoS (L : Lk) (τ : Tm) : Operand → Option Value
  | .tmp t => τ.get? t
  | .const v => cond (flat3 v) (some v) none
  | .global g => cond (L.glob g) (some (ptr g 0)) none
  | .func f => some (.func (.func f) #[] #[])

noncomputable def allocS (L : Lk) (ρ : Operand → Option Value) (o : Oper) (st : SS) (K : Value → SS → Option α) : Option α :=
  (allocE L ρ o).bind fun p => K (p.2 st.next) (st.new p.1)

noncomputable def opS (P : Program) (L : Lk) (cf : CallS) (ρ : Operand → Option Value) (o : Oper) (st : SS) (K : Value → SS → Option α) : Option α :=
  match o.op with
  | .move x | .assign x => (ρ x).bind fun v => K v st
  | .pick c a b => (ρ c).bind fun c => (asB c).bind fun b' => cond b' ((ρ a).bind fun v => K v st) ((ρ b).bind fun v => K v st)
  | .nilCheck x => (ρ x).bind fun v => (nilC v).bind fun v => K v st
  | .binOp op t x y _ => (ρ x).bind fun a => (ρ y).bind fun b => withSh (shBin L op t) (binS P L x y op t a b) fun v => K v st
  | .unOp _ t _ => withSh (L.sh t) (pureE P L ρ o) fun v => K v st
  | .convert src dst x => match L.und src, L.und dst with
    | some (.slice e), some .string => match L.und e with
      | some (.int .u8) => (ρ x).bind fun v => (st.bytes v).bind fun s => K (.string s) st
      | _ => none
    | some .string, some (.slice _) => allocS L ρ o st K
    | some (.int _), some (.int k) => withSh (.int k) (pureE P L ρ o) fun v => K v st
    | _, _ => none
  | .slice t x lo hi none => match L.und t with
    | some .string => (ρ x).bind fun v => (asS v).bind fun s => (boundS ρ 0 lo).bind fun l => (boundS ρ (s.size : Int) hi).bind fun h => (subS s l h).bind fun r => K (.string r) st
    | some (.slice e) => (L.size e).bind fun z => (ρ x).bind fun v => (boundS ρ 0 lo).bind fun l => (match hi with
        | none => sliceLen v
        | some y => (ρ y).bind asN).bind fun h => (st.resl v z l h).bind fun r => K r st
    | some (.array n e) => (L.size e).bind fun z => (ρ x).bind fun v => (addr? v).bind fun p => (boundS ρ 0 lo).bind fun l => (boundS ρ (n : Int) hi).bind fun h => (arrSl p.1 p.2 n z l h).bind fun r => K r st
    | _ => none
  | .fieldAddr s x f => (ρ x).bind fun a => (addr? a).bind fun p => match L.und s with
    | some (.struct fields) => (fields[f]?).bind fun fd => (L.size fd.type).bind fun z => cond (Nat.beq z 0) none (K (ptr p.1 (p.2 + fd.offset)) st)
    | _ => none
  | .indexAddr t x ix => (ρ x).bind fun a => (ρ ix).bind fun v => (asN v).bind fun n => match L.und t with
    | some (.array len e) => (L.size e).bind fun z => (elemA a len n z).bind fun p => K (ptr p.1 p.2) st
    | some (.slice e) => (L.size e).bind fun z => (elemS a n z).bind fun p => K (ptr p.1 p.2) st
    | _ => none
  | .field t x f => (ρ x).bind fun a => withSh (L.sh o.type) (fldG L t f a) fun v => K v st
  | .index t x ix => (ρ x).bind fun a => (ρ ix).bind fun v => (asN v).bind fun n => match L.und t with
    | some .string => (asS a).bind fun s => withSh (.int .u8) (idxS s n) fun v => K v st
    | some (.array len e) => withSh (L.sh e) (aggI L len e a n) fun v => K v st
    | _ => none
  | .extract t ix => (ρ t).bind fun a => withSh (L.sh o.type) (tupG a ix) fun v => K v st
  | .load t a => (ρ a).bind fun a => (addr? a).bind fun p => withSh (L.sh t) (st.loadT L t p.1 p.2) fun v => K v st
  | .store t a x => (ρ a).bind fun a => (ρ x).bind fun v => (addr? a).bind fun p => (L.size t).bind fun n => (st.stV p.1 p.2 n v).bind fun st => K undef st
  | .alloc _ | .box _ _ | .range _ _ | .makeMap _ none => allocS L ρ o st K
  | .makeSlice t len cap => (ρ len).bind fun l => (asN l).bind fun l => (ρ cap).bind fun c => (asN c).bind fun c => match L.und t with
    | some (.slice e) => (L.info e).bind fun i => i.zero.bind fun zero =>
      cond (flat2 zero && Nat.beq zero.cells.size i.size && Nat.blt 0 i.size) ((mkLen l c i.bytes).bind fun _ => K (.slice (some ⟨st.next, 0, none⟩) l.toNat c.toNat) (st.new (.cells (zerosS zero.cells.toList c) i.size))) none
    | _ => none
  | .next it true => (ρ it).bind fun a => (addr? a).bind fun p => cond (Nat.beq p.2 0) ((st.iterG p.1).bind fun sp => cond (Nat.ble st.lim p.1) (cond (decide (sp.2 < sp.1.size))
      (K (.tuple #[.bool true, .int .i64 (sp.2 : Int), .int .i32 ((Utf8.decode sp.1 sp.2).1 : Int)]) (st.set p.1 (some (.iter sp.1 (sp.2 + (Utf8.decode sp.1 sp.2).2)))))
      (K (.tuple #[.bool false]) st)) none) none
  | .lookup t x ix ok => (ρ x).bind fun a => (ρ ix).bind fun b => match L.und t with
    | some (.map kt et) => (match L.und kt with
      | some .string => (asS b).bind fun k => (L.info et).bind fun inf => inf.zero.bind fun zero => cond (flat2 zero) ((st.mapF a k).bind fun r =>
          optE r (K (cond ok (.tuple #[zero, .bool false]) zero) st) (fun v => K (cond ok (.tuple #[v, .bool true]) v) st)) none
      | _ => none)
    | _ => none
  | .mapUpdate t m k x => (ρ m).bind fun m => (ρ k).bind fun k => (ρ x).bind fun v => match L.und t with
    | some (.map kt _) => (match L.und kt with
      | some .string => (asS k).bind fun k => (st.mapP m k v).bind fun st => K undef st
      | _ => none)
    | _ => none
  | .call { callee := .value f, args, argTypes := _ } => (ρ f).bind fun f => (args.toList.mapM ρ).bind fun vs => match f with
    | .func (.func f) xs ys => (cf f (xs.toList ++ vs ++ ys.toList) st).bind fun r => withSh (L.sh o.type) (some r.1) fun v => K v r.2
    | _ => none
  | .call { callee := .builtin b, args, argTypes } => (args.toList.mapM ρ).bind fun vs => match b, vs, argTypes.toList with
    | .len, [v], [t] => (match L.und t with
      | some .string => (asS v).bind fun s => K (.int .i64 (s.size : Int)) st
      | some (.slice _) => withSh (.int .i64) (lenV v) fun v => K v st
      | _ => none)
    | .min, [.int k x, .int k' y], _ => cond (Nat.beq (kn k) (kn k')) (K (.int k (if y < x then y else x)) st) none
    | .max, [.int k x, .int k' y], _ => cond (Nat.beq (kn k) (kn k')) (K (.int k (if y > x then y else x)) st) none
    | .append, [s, x], [t, xt] => (match L.und t, L.und xt with
      | some (.slice _), some (.int _) => none
      | some (.slice e), some _ => (L.info e).bind fun i => i.zero.bind fun zero =>
        cond (Nat.blt 0 i.bytes && Nat.blt 0 i.size && Nat.beq zero.cells.size i.size && flat2 zero) ((st.app i.size i.bytes s x).bind fun r => K r.1 r.2) none
      | _, _ => none)
    | .copy, [d, x], [t, _] => (match L.und t with
      | some (.slice e) => (L.size e).bind fun sz => (st.cpy sz d x).bind fun r => withSh (.int .i64) (some r.1) fun v => K v r.2
      | _ => none)
    | .clear, [x], [t] => (match L.und t with
      | some (.slice e) => (L.info e).bind fun inf => inf.zero.bind fun zero => cond (flat2 zero) ((st.clr zero.cells.toList x).bind fun st => K (.tuple #[]) st) none
      | _ => none)
    | _, _, _ => none
  | .build t parts => (L.info t).bind fun i => i.zero.bind fun zero => cond (flat2 zero) (match L.und t with
    | some (.struct fields) => cond (fields.toList.all fun f => (L.size f.type).isSome && Nat.ble (f.offset + (L.size f.type).getD 0) zero.cells.size) (buildS ρ (fieldPl L fields) parts.toList zero.cells.toList fun l => K (.agg ⟨l⟩) st) none
    | some (.array n e) => (L.size e).bind fun z => buildS ρ (fun i => cond (Nat.ble (i * z + z) zero.cells.size) (some (i * z, z)) none) parts.toList zero.cells.toList fun l => K (.agg ⟨l⟩) st
    | _ => none) none
  | .buildSlice t len parts => (match L.und t with
    | some (.slice e) => (L.info e).bind fun i => i.zero.bind fun zero =>
      cond (flat2 zero && Nat.ble (len * i.size) (2 ^ 24) && Nat.beq zero.cells.size i.size && Nat.blt 0 i.size && Nat.beq parts.size len)
        (partsS ρ i.size parts.toList 0 fun l => K (.slice (some ⟨st.next, 0, none⟩) len len) (st.new (.cells l i.size))) none
    | _ => none)
  | .makeInterface _ _ | .makeFunc _ _ _ => (pureE P L ρ o).bind fun v => K v st
  | _ => none

/-- The operations of a region, one after the other; the first j are done. -/
noncomputable def opsS (P : Program) (L : Lk) (cf : CallS) (all : List Oper) : List (Oper × Bool) → Tm → SS → (Tm → SS → Option α) → Option α
  | [], τ, st, K => K τ st
  | x :: r, τ, st, K =>
    let run : Tm → Option α := fun τ => cond x.2
      (opS P L cf (rhoS L τ) x.1 (st.ro st.next) fun v st' => opsS P L cf all r (τ.put x.1.dst v) (st'.ro st.lim) K)
      (opS P L cf (rhoS L τ) x.1 st fun v st => opsS P L cf all r (τ.put x.1.dst v) st K)
    match x.1.guard with
    | none => run τ
    | some (j, want) => match ((all[j]?).bind (·.dst)) with
      | some d => (τ.get? d).bind fun v => match v with
        | .bool b => cond b
          (cond want (run (τ.put (some d) (.bool true))) (opsS P L cf all r ((τ.put (some d) (.bool true)).put x.1.dst undef) st K))
          (cond want (opsS P L cf all r ((τ.put (some d) (.bool false)).put x.1.dst undef) st K) (run (τ.put (some d) (.bool false))))
        | _ => opsS P L cf all r (τ.put x.1.dst undef) st K
      | none => none

noncomputable def evS (P : Program) (L : Lk) (cf : CallS) (lf : LoopS) (li : Nat → Option LoopI) : Code → Tm → SS → (Ex → Tm → SS → Option α) → Option α
  | .skip, τ, st, K => K .normal τ st
  | .label _, τ, st, K => K .normal τ st
  | .region _ ops false, τ, st, K => opsS P L cf ops.toList (ops.toList.map fun o => (o, false)) τ st (K .normal)
  | .region _ ops true, τ, st, K => cond (drawOk ops) (opsS P L cf ops.toList (ops.toList.zip (roL L ops.toList)) τ st (K .normal)) none
  | .seq a b, τ, st, K => evS P L cf lf li a τ st fun e τ st => match e with
    | .normal => evS P L cf lf li b τ st K
    | .exit i => K (.exit i) τ st
    | .ret => K .ret τ st
  | .cond c a b, τ, st, K => (rhoS L τ c).bind fun v => (asB v).bind fun b' => cond b' (evS P L cf lf li a τ st K) (evS P L cf lf li b τ st K)
  | .block id body, τ, st, K => evS P L cf lf li body τ st fun e τ st => match e with
    | .exit i => cond (Nat.beq i id) (K .normal τ st) (K (.exit i) τ st)
    | .normal => K .normal τ st
    | .ret => K .ret τ st
  | .loop body, τ, st, K => (li (firstReg body)).bind fun I => (pickT τ I.ins).bind fun vs => (lf (firstReg body) vs st).bind fun r =>
      exitsS r.1 (fun e ts => placeT r.2.1 ts 0 ⟨.nil, τ.n⟩ fun τ' => K e τ' r.2.2) I.exits 0
  | .exit id, τ, st, K => K (.exit id) τ st
  | .ret, τ, st, K => K .ret τ st
  | _, _, _, _ => none

noncomputable def resS (L : Lk) (τ : Tm) (st : SS) : List ResultVar → (List Value → Option α) → Option α
  | [], K => K []
  | .tmp t :: r, K => (τ.get? t).bind fun v => resS L τ st r fun vs => K (v :: vs)
  | .cell a t :: r, K => (τ.get? a).bind fun p => (addr? p).bind fun p => (st.readT L t p.1 p.2).bind fun v => resS L τ st r fun vs => K (v :: vs)

/-- A function's body, asked with arguments. -/
noncomputable def bodyS (P : Program) (L : Lk) (cf : CallS) (lf : LoopS) (li : Nat → Option LoopI) (fn : Func) (pur : Bool) (args : List Value) (st : SS) : Option (Value × SS) :=
  fn.body.bind fun c => cond (Nat.ble args.length fn.ntmps) (cond pur
    (evS P L cf lf li c ⟨tmOf args 0 .nil, fn.ntmps⟩ (st.ro st.next) fun e τ st1 => match e with
      | .exit _ => none
      | _ => resS L τ st1 fn.results.toList fun vs => cond (flat3 (packE vs)) (some (packE vs, st.adv st1.next)) none)
    (evS P L cf lf li c ⟨tmOf args 0 .nil, fn.ntmps⟩ st fun e τ st => match e with
      | .exit _ => none
      | _ => resS L τ st fn.results.toList fun vs => some (packE vs, st))) none

/-- One round of a loop. -/
noncomputable def loopS (P : Program) (L : Lk) (cf : CallS) (lf : LoopS) (li : Nat → Option LoopI) (body : Code) (I : LoopI) (n : Nat) (vs : List Value) (st : SS) : Option (Nat × List Value × SS) :=
  evS P L cf lf li body ⟨placeV I.ins vs .nil, n⟩ st fun e τ st => match e with
    | .normal => (pickT τ I.ins).bind fun vs => lf (firstReg body) vs st
    | .exit i => (findEx (.exit i) I.exits 0).bind fun x => (pickT τ x.2).bind fun vs => some (x.1, vs, st)
    | .ret => (findEx .ret I.exits 0).bind fun x => (pickT τ x.2).bind fun vs => some (x.1, vs, st)
end
end Go.E
/- The second evaluator is sound: what it tells of an operation the first one does. -/
set_option linter.unusedSimpArgs false
set_option linter.unusedVariables false
namespace Go.E
open Go

section
variable {P : Program} {L : Lk} {α : Type}

def TLe (τ τ' : Tm) : Prop := τ'.n = τ.n ∧ ∀ i v, τ.t.get i = some v → τ'.t.get i = some v
theorem TLe.refl (τ : Tm) : TLe τ τ := ⟨rfl, fun _ _ h => h⟩
theorem TLe.put {τ τ' : Tm} (h : TLe τ τ') (d : Option Tmp) (v : Value) : TLe (τ.put d v) (τ'.put d v) := by
  cases d with
  | none => exact h
  | some d =>
    unfold Tm.put
    simp only [h.1]
    cases hb : Nat.blt d τ.n with
    | false => simpa using h
    | true =>
      simp only [cond_true]
      refine ⟨rfl, fun i u hu => ?_⟩
      simp only [PT.get_upd] at hu ⊢
      split
      · rename_i e; rw [if_pos e] at hu; exact hu
      · rename_i e; rw [if_neg e] at hu; exact h.2 i u hu

/-- What is logged lies from the bound on. -/
def LogOk (lim base : Nat) (log log' : List Nat) : Prop := ∀ i ∈ log', i ∈ log ∨ (lim ≤ i ∧ i < base)
theorem LogOk.refl (lim base : Nat) (log : List Nat) : LogOk lim base log log := fun _ h => .inl h
theorem LogOk.trans {lim base : Nat} {a b c : List Nat} (h : LogOk lim base a b) (k : LogOk lim base b c) : LogOk lim base a c := fun i hi => by
  rcases k i hi with h1 | h1
  · exact h i h1
  · exact .inr h1
abbrev SS.toE (st : SS) (base : Nat) (log : List Nat) : St := ⟨st.mem, st.next, base, log⟩
theorem note_ok {st : SS} {base : Nat} {log : List Nat} {i : Nat} (h : st.lim ≤ i) : LogOk st.lim base log ((st.toE base log).note i) := by
  intro j hj
  unfold St.note at hj
  cases hb : Nat.blt i base with
  | false => simp only [SS.toE] at hj; rw [hb] at hj; exact .inl hj
  | true =>
    simp only [SS.toE] at hj
    rw [hb] at hj
    simp only [cond_true] at hj
    cases hc : log.contains i with
    | true => rw [hc] at hj; exact .inl hj
    | false =>
      rw [hc] at hj
      simp only [cond_false, List.mem_cons] at hj
      rcases hj with rfl | hj
      · exact .inr ⟨h, by rwa [Nat.blt_eq] at hb⟩
      · exact .inl hj

theorem asI_some {k : IntKind} {v : Value} {n : Int} (h : asI k v = some n) : v = .int k n := by
  unfold asI at h
  split at h
  · rename_i k' m
    cases hb : Nat.beq (kn k) (kn k') with
    | false => rw [hb] at h; cases h
    | true => rw [hb] at h; cases h; rw [kn_inj hb]
  · cases h
theorem asB_some {v : Value} {b : Bool} (h : asB v = some b) : v = .bool b := by
  unfold asB at h; split at h <;> cases h; rfl
theorem asS_some {v : Value} {s : ByteArray} (h : asS v = some s) : v = .string s := by
  unfold asS at h; split at h <;> cases h; rfl
theorem asN_some {v : Value} {n : Int} (h : asN v = some n) : ∃ k, v = .int k n := by
  unfold asN at h; split at h <;> cases h; exact ⟨_, rfl⟩
theorem withSh_some {s : Sh} {ov : Option Value} {K : Value → Option α} {r : α} (h : withSh s ov K = some r) : ∃ v, ov = some v ∧ K v = some r := by
  unfold withSh at h
  cases s <;> simp only [Option.bind_eq_some_iff] at h
  · obtain ⟨n, ⟨v, hv, hn⟩, h⟩ := h; rw [← asI_some hn] at h; exact ⟨v, hv, h⟩
  · obtain ⟨n, ⟨v, hv, hn⟩, h⟩ := h; rw [← asB_some hn] at h; exact ⟨v, hv, h⟩
  · obtain ⟨n, ⟨v, hv, hn⟩, h⟩ := h; rw [← asS_some hn] at h; exact ⟨v, hv, h⟩
  · exact h

theorem op_pure {cf : CallF} {ρ : Operand → Option Value} {o : Oper} {st : St} {v : Value} (h : pureE P L ρ o = some v) : opE P L cf ρ o st = some (v, .blind, st) := opE_pure h
theorem op_alloc {cf : CallF} {ρ : Operand → Option Value} {o : Oper} {st : St} {ob : AObj} {vf : Nat → Value} (h0 : pureE P L ρ o = none) (h : allocE L ρ o = some (ob, vf)) :
    opE P L cf ρ o st = some (vf st.next, .blind, st.new ob) := by unfold opE; rw [h0, h]
theorem op_read {cf : CallF} {ρ : Operand → Option Value} {o : Oper} {st : St} {i : Nat} {g : AObj → Option Value} {ob : AObj} {v : Value} (h0 : pureE P L ρ o = none) (h1 : allocE L ρ o = none) (h : readE L ρ o = some (i, g))
    (hm : st.mem.get i = some ob) (hg : g ob = some v) : opE P L cf ρ o st = some (v, .read i, st) := by unfold opE; rw [h0, h1, h]; simp [hm, hg]
theorem op_gen {cf : CallF} {ρ : Operand → Option Value} {o : Oper} {st st' : St} {v : Value} (h0 : pureE P L ρ o = none) (h1 : allocE L ρ o = none) (h2 : readE L ρ o = none) (h : genE L cf ρ o st = some (v, st')) :
    opE P L cf ρ o st = some (v, .gen, st') := by unfold opE; rw [h0, h1, h2, h]; rfl

/-- What an operation does, at all depths from one on, whatever is logged. -/
def OpR (P : Program) (L : Lk) (o : Oper) (ρ : Operand → Option Value) (st : SS) (v : Value) (st' : SS) : Prop :=
  st'.lim = st.lim ∧ ∃ n, ∀ m, n ≤ m → ∀ base log ρ', (∀ x v, ρ x = some v → ρ' x = some v) →
    ∃ kd log', opE P L (callE L (codeE P L m)) ρ' o (st.toE base log) = some (v, kd, st'.toE base log') ∧ LogOk st.lim base log log' ∧ (blindOp L o.op = true → kd = .blind) ∧ (genOp o.op = false → log' = log)

theorem OpR.pure {o : Oper} {ρ : Operand → Option Value} {st : SS} {v : Value} (h : ∀ ρ', (∀ x v, ρ x = some v → ρ' x = some v) → pureE P L ρ' o = some v) : OpR P L o ρ st v st :=
  ⟨rfl, 0, fun m _ base log ρ' hρ => ⟨_, log, op_pure (h ρ' hρ), .refl _ _ _, fun _ => rfl, fun _ => rfl⟩⟩
theorem OpR.alloc {o : Oper} {ρ : Operand → Option Value} {st : SS} {ob : AObj} {v : Value} (h : ∀ ρ', (∀ x v, ρ x = some v → ρ' x = some v) → pureE P L ρ' o = none ∧ ∃ vf, allocE L ρ' o = some (ob, vf) ∧ vf st.next = v) : OpR P L o ρ st v (st.new ob) :=
  ⟨rfl, 0, fun m _ base log ρ' hρ => by
    obtain ⟨h0, vf, h1, rfl⟩ := h ρ' hρ
    exact ⟨_, log, op_alloc h0 h1, .refl _ _ _, fun _ => rfl, fun _ => rfl⟩⟩
theorem OpR.read {o : Oper} {ρ : Operand → Option Value} {st : SS} {v : Value} (hb : blindOp L o.op = false) (h : ∀ ρ', (∀ x v, ρ x = some v → ρ' x = some v) → pureE P L ρ' o = none ∧ allocE L ρ' o = none ∧
    ∃ i g ob, readE L ρ' o = some (i, g) ∧ st.mem.get i = some ob ∧ g ob = some v) : OpR P L o ρ st v st :=
  ⟨rfl, 0, fun m _ base log ρ' hρ => by
    obtain ⟨h0, h1, i, g, ob, h2, h3, h4⟩ := h ρ' hρ
    exact ⟨_, log, op_read h0 h1 h2 h3 h4, .refl _ _ _, fun hc => (by rw [hb] at hc; cases hc), fun _ => rfl⟩⟩
theorem OpR.gen {o : Oper} {ρ : Operand → Option Value} {st st' : SS} {v : Value} (hb : blindOp L o.op = false) (hg : genOp o.op = true) (hl : st'.lim = st.lim)
    (h : ∃ n, ∀ m, n ≤ m → ∀ base log ρ', (∀ x v, ρ x = some v → ρ' x = some v) → pureE P L ρ' o = none ∧ allocE L ρ' o = none ∧ readE L ρ' o = none ∧
      ∃ log', genE L (callE L (codeE P L m)) ρ' o (st.toE base log) = some (v, st'.toE base log') ∧ LogOk st.lim base log log') : OpR P L o ρ st v st' := by
  obtain ⟨n, h⟩ := h
  refine ⟨hl, n, fun m hm base log ρ' hρ => ?_⟩
  obtain ⟨h0, h1, h2, log', h3, h4⟩ := h m hm base log ρ' hρ
  exact ⟨_, log', op_gen h0 h1 h2 h3, h4, fun hc => (by rw [hb] at hc; cases hc), fun hc => (by rw [hg] at hc; cases hc)⟩

/-- What a call does. -/
def CallR (P : Program) (L : Lk) (f : FuncId) (args : List Value) (st : SS) (v : Value) (st' : SS) : Prop :=
  st'.lim = st.lim ∧ ∃ n, ∀ m, n ≤ m → ∀ base log, ∃ log', callE L (codeE P L m) f args (st.toE base log) = some (v, st'.toE base log') ∧ LogOk st.lim base log log'

open Classical in
/-- What a call comes to. -/
noncomputable def cS (P : Program) (L : Lk) : CallS := fun f args st => if h : ∃ r : Value × SS, CallR P L f args st r.1 r.2 then some (Classical.choose h) else none

theorem callR_unique {f : FuncId} {args : List Value} {st : SS} {r r' : Value × SS} (h : CallR P L f args st r.1 r.2) (k : CallR P L f args st r'.1 r'.2) : r = r' := by
  obtain ⟨h1, n, h2⟩ := h
  obtain ⟨k1, n', k2⟩ := k
  obtain ⟨l, h3, _⟩ := h2 (max n n') (Nat.le_max_left _ _) 0 []
  obtain ⟨l', k3, _⟩ := k2 (max n n') (Nat.le_max_right _ _) 0 []
  rw [h3] at k3
  simp only [SS.toE, Option.some.injEq, Prod.mk.injEq, St.mk.injEq] at k3
  obtain ⟨e1, e2, e3, _⟩ := k3
  obtain ⟨v, ⟨m, nx, lm⟩⟩ := r
  obtain ⟨v', ⟨m', nx', lm'⟩⟩ := r'
  simp only at h1 k1 e1 e2 e3
  simp only [Prod.mk.injEq, SS.mk.injEq]
  exact ⟨e1, e2, e3, h1.trans k1.symm⟩
theorem cS_iff {f : FuncId} {args : List Value} {st : SS} {r : Value × SS} : cS P L f args st = some r ↔ CallR P L f args st r.1 r.2 := by
  unfold cS
  constructor
  · intro h
    split at h
    · rename_i hx; cases h; exact Classical.choose_spec hx
    · cases h
  · intro h
    rw [dif_pos ⟨r, h⟩]
    exact congrArg some (callR_unique (Classical.choose_spec (⟨r, h⟩ : ∃ r : Value × SS, CallR P L f args st r.1 r.2)) h)

/-! ### The parts -/
theorem mapM_mono {ρ ρ' : Operand → Option Value} (h : ∀ x v, ρ x = some v → ρ' x = some v) : ∀ (xs : List Operand) (vs : List Value), xs.mapM ρ = some vs → xs.mapM ρ' = some vs
  | [], vs, e => by simpa using e
  | x :: xs, vs, e => by
    simp only [List.mapM_cons, Option.bind_eq_bind, Option.pure_def, Option.bind_eq_some_iff] at e ⊢
    obtain ⟨v, hv, r, hr, e⟩ := e
    exact ⟨v, h x v hv, r, mapM_mono h xs r hr, e⟩
theorem mapMp_mono {ρ ρ' : Operand → Option Value} (h : ∀ x v, ρ x = some v → ρ' x = some v) : ∀ (xs : List (Nat × Operand)) (vs : List (Nat × Value)),
    (xs.mapM fun p => (ρ p.2).map fun v => (p.1, v)) = some vs → (xs.mapM fun p => (ρ' p.2).map fun v => (p.1, v)) = some vs
  | [], vs, e => by simpa using e
  | x :: xs, vs, e => by
    simp only [List.mapM_cons, Option.bind_eq_bind, Option.pure_def, Option.bind_eq_some_iff, Option.map_eq_some_iff] at e ⊢
    obtain ⟨v, ⟨u, hu, rfl⟩, r, hr, e⟩ := e
    exact ⟨_, ⟨u, h _ u hu, rfl⟩, r, mapMp_mono h xs r hr, e⟩

theorem beq_true {a b : Nat} (h : Nat.beq a b = true) : a = b := by rw [beq_dec] at h; exact of_decide_eq_true h

/-- Nothing of a kind. -/
theorem sliceE_of {n cap : Nat} {lo hi : Option Value} {l h : Int} (hl : match lo with | none => l = 0 | some v => ∃ k, v = .int k l) (hh : match hi with | none => h = n | some v => ∃ k, v = .int k h)
    (h0 : 0 ≤ l) (h1 : l ≤ h) (h2 : h ≤ cap) : sliceE n cap lo hi = some (l.toNat, h.toNat) := by
  have key : (Nat.ble h.toNat cap && Nat.ble l.toNat h.toNat) = true := by
    simp only [Bool.and_eq_true, Nat.ble_eq]; omega
  have e1 : ∀ v, (∃ k, v = Value.int k h) → asNat? v = some h.toNat := fun v ⟨k, e⟩ => by subst e; simp only [asNat?]; rw [if_pos (by omega)]
  have e2 : ∀ v, (∃ k, v = Value.int k l) → asNat? v = some l.toNat := fun v ⟨k, e⟩ => by subst e; simp only [asNat?]; rw [if_pos (by omega)]
  unfold sliceE
  cases hi with
  | none =>
    simp only at hh
    have e3 : h.toNat = n := by omega
    cases lo with
    | none =>
      simp only at hl
      have e4 : l.toNat = 0 := by omega
      rw [e3, e4] at key
      simp only [Option.bind_some, key, cond_true, e3, e4]
    | some v =>
      rw [e3] at key
      simp only [Option.bind_some, e2 v hl, key, cond_true, e3]
  | some u =>
    cases lo with
    | none =>
      simp only at hl
      have e4 : l.toNat = 0 := by omega
      rw [e4] at key
      simp only [Option.bind_some, e1 u hh, key, cond_true, e4]
    | some v => simp only [Option.bind_some, e1 u hh, e2 v hl, key, cond_true]
theorem bound_some {ρ ρ' : Operand → Option Value} (hρ : ∀ x v, ρ x = some v → ρ' x = some v) {d n : Int} {x : Option Operand} (h : boundS ρ d x = some n) :
    ∃ r, (match x with | some v => (ρ' v).map some | none => some none) = some r ∧ (match r with | none => n = d | some v => ∃ k, v = .int k n) := by
  cases x with
  | none => simp only [boundS, Option.some.injEq] at h; exact ⟨none, rfl, h.symm⟩
  | some x =>
    simp only [boundS, Option.bind_eq_some_iff] at h
    obtain ⟨v, hv, h⟩ := h
    exact ⟨some v, by simp [hρ x v hv], asN_some h⟩
end
end Go.E
/- The second evaluator's operators are the first one's. -/
set_option linter.unusedSimpArgs false
set_option linter.unusedVariables false
namespace Go.E
open Go

section
variable {P : Program} {L : Lk} {α : Type}

theorem rp_pure (a : α) : runPure P (pure a : Sem α) = some a := rfl
theorem rp_program : runPure P (program : Sem Program) = some P := rfl
theorem rp_info {t : TypeId} {i : TypeInfo} (h : P.info? t = some i) : runPure P (typeInfo t) = some i := by
  unfold typeInfo
  rw [runPure_bind, rp_program]
  simp [h]; rfl
theorem rp_size {t : TypeId} {i : TypeInfo} (h : P.info? t = some i) : runPure P (sizeOf t) = some i.size := by
  unfold sizeOf
  rw [runPure_bind, rp_info h]
  rfl
theorem rp_isAgg {t : TypeId} {d : TypeDesc} (h : P.underlying t = some d) : runPure P (isAgg t) = some (aggD d) := by
  unfold isAgg
  rw [runPure_bind, runPure_und h]
  cases d <;> rfl
theorem rp_part [Sym] (hL : L.Ok P) {t : TypeId} {cs : Array Value} {off : Nat} {v : Value} (h : partE L t cs off = some v) : runPure P (part t cs off) = some v := by
  unfold partE at h
  split at h
  · rename_i f hu
    simp only [Option.map_eq_some_iff] at h
    obtain ⟨n, hn, rfl⟩ := h
    obtain ⟨i, hi, rfl⟩ := size_some hn
    unfold part
    simp [-bind_pure_comp, runPure_bind, rp_isAgg (hL.und _ _ hu), rp_size (hL.info _ _ hi), aggD, rp_pure]
  · rename_i n e hu
    simp only [Option.map_eq_some_iff] at h
    obtain ⟨n, hn, rfl⟩ := h
    obtain ⟨i, hi, rfl⟩ := size_some hn
    unfold part
    simp [-bind_pure_comp, runPure_bind, rp_isAgg (hL.und _ _ hu), rp_size (hL.info _ _ hi), aggD, rp_pure]
  · rename_i d h1 h2 hu
    unfold part
    simp [runPure_bind, rp_isAgg (hL.und _ _ hu), aggD_no h1 h2, h, rp_pure]
  · cases h

theorem eqT_toList (a b : ByteArray) : (a == b) = eqT a b := by
  rw [beq_toListBytes, ByteArray.toList_eq, ByteArray.toList_eq, Bool.eq_iff_iff]
  simp [eqT]

theorem rp_fields [Sym] (hL : L.Ok P) {d D : Nat} (ih : ∀ t a b r, eqD P L d t a b = some r → runPure P (Op.equalIn D t a b) = some r) {xs ys : Array Value} : ∀ (fs : List Field) (r : Bool), (fs.all fun f => f.name != "_") = true →
    eqFs (eqD P L d) L xs ys fs = some r → runPure P (Op.eqFields D xs ys fs) = some r
  | [], r, _, h => by simp only [eqFs, Option.some.injEq] at h; subst h; rfl
  | f :: fs, r, hn, h => by
    simp only [List.all_cons, Bool.and_eq_true, bne_iff_ne, ne_eq] at hn
    simp only [eqFs, Option.bind_eq_some_iff, Option.some.injEq] at h
    obtain ⟨p, hp, q, hq, r1, hr1, s, hs, rfl⟩ := h
    have ih2 := rp_fields hL ih fs s (by simpa using hn.2) hs
    unfold Op.eqFields
    rw [if_pos hn.1]
    simp only [runPure_bind, rp_part hL hp, rp_part hL hq, ih _ _ _ _ hr1, Option.bind_some]
    cases r1 with
    | false => simp [rp_pure]
    | true => simpa using ih2

theorem rp_struct {D : Nat} {t : TypeId} {xs ys : Array Value} {fs : Array Field} (ht : P.underlying t = some (.struct fs)) (hp : P.stoodInHeld t = false) :
    runPure P (Op.equalIn (D + 1) t (.agg xs) (.agg ys)) = runPure P (Op.eqFields D xs ys fs.toList) := by
  simp only [Op.equalIn, runPure_bind, runPure_und ht, rp_program, Option.bind_some, hp, Bool.false_eq_true, if_false]
  rw [← Array.forIn_toList]
  generalize fs.toList = l
  clear ht
  induction l with
  | nil => rfl
  | cons f l ih =>
    simp only [List.forIn_cons, Op.eqFields, runPure_bind]
    by_cases hn : f.name = "_"
    · simp only [hn, ne_eq, not_true_eq_false, if_false, rp_pure, Option.bind_some]
      exact ih
    · simp only [ne_eq, hn, not_false_eq_true, if_true, runPure_bind]
      cases h1 : runPure P (part f.type xs f.offset) with
      | none => simp
      | some a =>
        cases h2 : runPure P (part f.type ys f.offset) with
        | none => simp
        | some b =>
          cases h3 : runPure P (Op.equalIn D f.type a b) with
          | none => simp [h3]
          | some r =>
            cases r with
            | false => simp [h3, rp_pure]
            | true =>
              simp only [h3, Option.bind_some, Bool.not_true, Bool.false_eq_true, if_false, rp_pure]
              exact ih

theorem rp_array [Sym] (hL : L.Ok P) {d D e z : Nat} {ti : TypeInfo} (hz : P.info? e = some ti) (hzz : ti.size = z) (ih : ∀ t a b r, eqD P L d t a b = some r → runPure P (Op.equalIn D t a b) = some r) {xs ys : Array Value} {t n : Nat} (ht : P.underlying t = some (.array n e)) {r : Bool}
    (h : eqEs (eqD P L d e) L e z xs ys n 0 = some r) : runPure P (Op.equalIn (D + 1) t (.agg xs) (.agg ys)) = some r := by
  simp only [Op.equalIn, runPure_bind, runPure_und ht, rp_size hz, Option.bind_some, hzz]
  rw [Std.Legacy.Range.forIn_eq_forIn_range']
  simp only [Std.Legacy.Range.size, Nat.sub_zero, Nat.add_sub_cancel, Nat.div_one]
  clear ht
  generalize 0 = i at h ⊢
  induction n generalizing i r with
  | zero => simp only [eqEs, Option.some.injEq] at h; subst h; rfl
  | succ n ihn =>
    simp only [eqEs, Option.bind_eq_some_iff, Option.some.injEq] at h
    obtain ⟨p, hp, q, hq, r1, hr1, s, hs, rfl⟩ := h
    have := ihn (i := i + 1) hs
    simp only [List.range'_succ, List.forIn_cons, runPure_bind, rp_part hL hp, rp_part hL hq, ih _ _ _ _ hr1, Option.bind_some]
    cases r1 with
    | false => simp [rp_pure]
    | true =>
      simp only [Bool.not_true, Bool.false_eq_true, if_false, rp_pure, Option.bind_some, Bool.true_and]
      exact this

theorem rp_eqD [Sym] (hL : L.Ok P) : ∀ (d D : Nat) (t : TypeId) (a b : Value) (r : Bool), d ≤ D → eqD P L d t a b = some r → runPure P (Op.equalIn D t a b) = some r
  | 0, D, t, a, b, r, _, h => by simp [eqD] at h
  | d + 1, D, t, a, b, r, hle, h => by
    obtain ⟨D, rfl⟩ : ∃ E, D = E + 1 := ⟨D - 1, by omega⟩
    have ih := fun t a b r h => rp_eqD hL d D t a b r (by omega) h
    unfold eqD at h
    split at h
    · rename_i k hu
      simp only [Option.bind_eq_some_iff, Option.some.injEq] at h
      obtain ⟨x, hx, y, hy, rfl⟩ := h
      rw [asI_some hx, asI_some hy]
      simp only [Op.equalIn, runPure_bind, runPure_und (hL.und _ _ hu), Option.bind_some, if_true, rp_pure]
      congr 1
    · rename_i hu
      simp only [Option.bind_eq_some_iff, Option.some.injEq] at h
      obtain ⟨x, hx, y, hy, rfl⟩ := h
      rw [asB_some hx, asB_some hy]
      simp only [Op.equalIn, runPure_bind, runPure_und (hL.und _ _ hu), Option.bind_some, rp_pure]
    · rename_i hu
      simp only [Option.bind_eq_some_iff, Option.some.injEq] at h
      obtain ⟨x, hx, y, hy, rfl⟩ := h
      rw [asS_some hx, asS_some hy]
      simp only [Op.equalIn, runPure_bind, runPure_und (hL.und _ _ hu), Option.bind_some, rp_pure, eqT_toList]
    · rename_i fs hu
      split at h
      · rename_i xs ys
        cases hc : ((fs.toList.all fun f => f.name != "_") && !P.stoodInHeld t) with
        | false => rw [hc] at h; cases h
        | true =>
          rw [hc] at h
          simp only [cond_true] at h
          simp only [Bool.and_eq_true, Bool.not_eq_true'] at hc
          rw [rp_struct (hL.und _ _ hu) hc.2]
          exact rp_fields hL ih _ _ hc.1 h
      · cases h
    · rename_i n e hu
      split at h
      · rename_i xs ys
        simp only [Option.bind_eq_some_iff] at h
        obtain ⟨z, hz, h⟩ := h
        obtain ⟨ti, hti, hzz⟩ := size_some hz
        exact rp_array hL (hL.info _ _ hti) hzz ih (hL.und _ _ hu) h
      · cases h
    · cases h

theorem rp_eqA [Sym] (hL : L.Ok P) {t : TypeId} {a b : Value} {r : Bool} {x y : Operand} {op : BinOp} (h : eqA P L t a b = some r) :
    flat2 a = true ∧ flat2 b = true ∧ runPure P (eqGuard op t x y a b) = some () ∧ runPure P (Op.equal t a b) = some r ∧ ∃ xs ys, a = .agg xs ∧ b = .agg ys := by
  unfold eqA at h
  split at h
  · rename_i xs ys
    cases hc : (flat2 (.agg xs) && flat2 (.agg ys) && !(P.eqGuardType P.depth t)) with
    | false => rw [hc] at h; cases h
    | true =>
      rw [hc] at h
      simp only [cond_true] at h
      simp only [Bool.and_eq_true, Bool.not_eq_true'] at hc
      refine ⟨hc.1.1, hc.1.2, ?_, rp_eqD hL 20 Op.maxDepth t _ _ _ (by decide) h, xs, ys, rfl, rfl⟩
      unfold eqGuard
      cases op <;> simp [runPure_bind, rp_program, hc.2, rp_pure] <;> rfl
  · cases h
end
end Go.E
/- The second evaluator's operations that only reckon are sound. -/
set_option linter.unusedSimpArgs false
set_option linter.unusedVariables false
namespace Go.E
open Go

section
variable {P : Program} {L : Lk} {α : Type} {ρ : Operand → Option Value} {o : Oper} {st : SS}

/-- The lookups that the second evaluator is asked with. -/
structure LkS (L : Lk) : Prop where
  symOp : ∀ op t a b, L.symOp op t a b = none

theorem pv_of {s : Sem Value} {v : Value} (h : runPure P s = some v) (hf : flat3 v = true) : pureV P s = some v := by
  unfold pureV; rw [h]; simp [hf]

theorem aI_run {op : BinOp} {k : IntKind} {a b : Int} {v : Value} (t : TypeId) (h : aI op k a b = some v) : (∀ k', (op = .shl ∨ op = .shr ∨ k' = k) → runPure P (binOp op t (.int k a) (.int k' b)) = some v) ∧ flat3 v = true := by
  cases op <;> simp only [aI] at h
  case shl =>
    cases hb : decide (b < 0) with
    | true => rw [hb] at h; cases h
    | false =>
      rw [hb] at h; cases h
      have hn : ¬ b < 0 := of_decide_eq_false hb
      exact ⟨fun k' _ => by simp [binOp, Op.shift, hn, shlI, rp_pure], rfl⟩
  case shr =>
    cases hb : decide (b < 0) with
    | true => rw [hb] at h; cases h
    | false =>
      rw [hb] at h; cases h
      have hn : ¬ b < 0 := of_decide_eq_false hb
      exact ⟨fun k' _ => by simp [binOp, Op.shift, hn, shrI, rp_pure], rfl⟩
  case quo =>
    cases hb : decide (b = 0) with
    | true => rw [hb] at h; cases h
    | false =>
      rw [hb] at h; cases h
      have hn : ¬ b = 0 := of_decide_eq_false hb
      exact ⟨fun k' hk => by simp at hk; subst hk; simp [binOp, Op.intDiv, hn, rp_pure], rfl⟩
  case rem =>
    cases hb : decide (b = 0) with
    | true => rw [hb] at h; cases h
    | false =>
      rw [hb] at h; cases h
      have hn : ¬ b = 0 := of_decide_eq_false hb
      exact ⟨fun k' hk => by simp at hk; subst hk; simp [binOp, Op.intDiv, hn, rp_pure], rfl⟩
  all_goals
    cases h
    refine ⟨fun k' hk => ?_, rfl⟩
    simp at hk; subst hk
    first
      | (simp [binOp, Op.intArith, rp_pure]; done)
      | (simp [binOp, Op.intBits, rp_pure, andI, orI, xorI, andNotI]; done)
      | (simp [binOp, Op.intCmp, rp_pure]; done)
      | skip
  · simp [binOp, Op.intCmp, rp_pure]; rw [Bool.eq_iff_iff]; simp
  · simp [binOp, Op.intCmp, rp_pure]; rw [Bool.eq_iff_iff]; simp

theorem guard_no {op : BinOp} (t : TypeId) (x y : Operand) (a b : Value) (h : op ≠ .eql ∧ op ≠ .neq) : runPure P (eqGuard op t x y a b) = some () := by
  unfold eqGuard; cases op <;> first | rfl | (simp at h; done)
theorem guard_str (op : BinOp) (t : TypeId) (x y : Operand) (a b : ByteArray) : runPure P (eqGuard op t x y (.string a) (.string b)) = some () := by cases op <;> rfl
theorem guard_bool (op : BinOp) (t : TypeId) (x y : Operand) (a b : Bool) : runPure P (eqGuard op t x y (.bool a) (.bool b)) = some () := by cases op <;> rfl
theorem guard_ptr (op : BinOp) (t : TypeId) (x y : Operand) : runPure P (eqGuard op t x y (.pointer none) (.pointer none)) = some () := by cases op <;> rfl
theorem guard_sl (op : BinOp) (t : TypeId) (x y : Operand) : runPure P (eqGuard op t x y (.slice none 0 0) (.slice none 0 0)) = some () := by cases op <;> rfl
theorem guard_if (op : BinOp) (t : TypeId) (x y : Operand) (h : (∃ c, x = .const c) ∨ ∃ c, y = .const c) : runPure P (eqGuard op t x y .nilIface .nilIface) = some () := by
  rcases h with ⟨c, rfl⟩ | ⟨c, rfl⟩
  · cases op <;> rfl
  · cases op <;> cases x <;> rfl

/-- An operator of two flat values. -/
theorem bin_flat {op : BinOp} {t yt : TypeId} {x y : Operand} {a b v : Value} (ho : o.op = .binOp op t x y yt) (ha : ρ x = some a) (hb : ρ y = some b) (fa : flat2 a = true) (fb : flat2 b = true)
    (hg : runPure P (eqGuard op t x y a b) = some ()) (hr : runPure P (binOp op t a b) = some v) (hv : flat3 v = true) : OpR P L o ρ st v st := by
  refine .pure fun ρ' hρ => ?_
  unfold pureE
  simp only [ho, hρ x a ha, hρ y b hb, Option.bind_some, fa, fb, Bool.and_self, cond_true]
  exact pv_of (by rw [runPure_bind, hg]; exact hr) hv
theorem bin_nil (hS : LkS L) {op : BinOp} {t yt : TypeId} {x y : Operand} {a b : Value} {d : TypeDesc} {r : Bool} (ho : o.op = .binOp op t x y yt) (ha : ρ x = some a) (hb : ρ y = some b) (hf : (flat2 a && flat2 b) = false)
    (hu : L.und t = some d) (he : eqNil d a b = some r) (v : Value) (hv : (op = .eql ∧ v = .bool r) ∨ (op = .neq ∧ v = .bool !r)) : OpR P L o ρ st v st := by
  refine .pure fun ρ' hρ => ?_
  unfold pureE
  simp only [ho, hρ x a ha, hρ y b hb, Option.bind_some, hf, cond_false, hS.symOp, hu, he]
  rcases hv with ⟨rfl, rfl⟩ | ⟨rfl, rfl⟩ <;> rfl

theorem rp_bool {t : TypeId} (hu : P.underlying t = some .bool) (p q : Bool) : runPure P (Op.equal t (.bool p) (.bool q)) = some (p == q) := by
  have : ∀ D, runPure P (Op.equalIn (D + 1) t (.bool p) (.bool q)) = some (p == q) := fun D => by
    simp only [Op.equalIn, runPure_bind, runPure_und hu, Option.bind_some, rp_pure]
  exact this 9999
theorem rp_ptr0 {t e : TypeId} (hu : P.underlying t = some (.pointer e)) : runPure P (Op.equal t (.pointer none) (.pointer none)) = some true := by
  have : ∀ D, runPure P (Op.equalIn (D + 1) t (.pointer none) (.pointer none)) = some true := fun D => by
    simp only [Op.equalIn, runPure_bind, runPure_und hu, Option.bind_some, rp_pure, Option.isNone_none]
  exact this 9999
theorem rp_sl0 {t e : TypeId} (hu : P.underlying t = some (.slice e)) : runPure P (Op.equal t (.slice none 0 0) (.slice none 0 0)) = some true := by
  have : ∀ D, runPure P (Op.equalIn (D + 1) t (.slice none 0 0) (.slice none 0 0)) = some true := fun D => by
    simp only [Op.equalIn, runPure_bind, runPure_und hu, Option.bind_some, rp_pure, Option.isNone_none]
  exact this 9999
theorem rp_if0 {t : TypeId} {m : Array (String × TypeId)} (hu : P.underlying t = some (.interface m)) : runPure P (Op.equal t .nilIface .nilIface) = some true := by
  have : ∀ D, runPure P (Op.equalIn (D + 1) t .nilIface .nilIface) = some true := fun D => by
    simp only [Op.equalIn, runPure_bind, runPure_und hu, Option.bind_some, rp_pure]
  exact this 9999

theorem eq_sound [Sym] (hL : L.Ok P) (hS : LkS L) {op : BinOp} {t yt : TypeId} {x y : Operand} {a b : Value} {r : Bool} (ho : o.op = .binOp op t x y yt) (hc : ∀ c v, ρ (.const c) = some v → v = c)
    (ha : ρ x = some a) (hb : ρ y = some b) (h : eqS P L x y t a b = some r) (v : Value) (hv : (op = .eql ∧ v = .bool r) ∨ (op = .neq ∧ v = .bool !r)) : OpR P L o ρ st v st := by
  have hfl : flat3 v = true := by rcases hv with ⟨_, rfl⟩ | ⟨_, rfl⟩ <;> rfl
  unfold eqS at h
  split at h
  · -- whole numbers
    rename_i k hu
    simp only [Option.bind_eq_some_iff, Option.some.injEq] at h
    obtain ⟨p, hp, q, hq, rfl⟩ := h
    have e1 := asI_some hp; have e2 := asI_some hq; subst e1; subst e2
    have := (aI_run (P := P) (op := op) (k := k) (a := p) (b := q) (v := v) t (by rcases hv with ⟨rfl, rfl⟩ | ⟨rfl, rfl⟩ <;> rfl)).1 k (.inr (.inr rfl))
    exact bin_flat ho ha hb rfl rfl (guard_int ..) this hfl
  · rename_i hu
    simp only [Option.bind_eq_some_iff, Option.some.injEq] at h
    obtain ⟨p, hp, q, hq, rfl⟩ := h
    have e1 := asB_some hp; have e2 := asB_some hq; subst e1; subst e2
    have he := rp_bool (hL.und _ _ hu) p q
    refine bin_flat ho ha hb rfl rfl (guard_bool ..) ?_ hfl
    rcases hv with ⟨rfl, rfl⟩ | ⟨rfl, rfl⟩
    · show runPure P (do Pure.pure (Value.bool (← Op.equal t (.bool p) (.bool q)))) = _; rw [runPure_bind, he]; rfl
    · show runPure P (do Pure.pure (Value.bool (!(← Op.equal t (.bool p) (.bool q))))) = _; rw [runPure_bind, he]; rfl
  · rename_i hu
    simp only [Option.bind_eq_some_iff, Option.some.injEq] at h
    obtain ⟨p, hp, q, hq, rfl⟩ := h
    have e1 := asS_some hp; have e2 := asS_some hq; subst e1; subst e2
    have key : (p.toList == q.toList) = eqT p q := by rw [← beq_toListBytes, eqT_toList]
    refine bin_flat ho ha hb rfl rfl (guard_str ..) ?_ hfl
    rcases hv with ⟨rfl, rfl⟩ | ⟨rfl, rfl⟩ <;> simp [binOp, Op.stringOp, rp_pure, key]
  · obtain ⟨fa, fb, hg, he, xs, ys, rfl, rfl⟩ := rp_eqA (op := op) (x := x) (y := y) hL h
    refine bin_flat ho ha hb fa fb hg ?_ hfl
    rcases hv with ⟨rfl, rfl⟩ | ⟨rfl, rfl⟩
    · show runPure P (do Pure.pure (Value.bool (← Op.equal t (.agg xs) (.agg ys)))) = _; rw [runPure_bind, he]; rfl
    · show runPure P (do Pure.pure (Value.bool (!(← Op.equal t (.agg xs) (.agg ys))))) = _; rw [runPure_bind, he]; rfl
  · obtain ⟨fa, fb, hg, he, xs, ys, rfl, rfl⟩ := rp_eqA (op := op) (x := x) (y := y) hL h
    refine bin_flat ho ha hb fa fb hg ?_ hfl
    rcases hv with ⟨rfl, rfl⟩ | ⟨rfl, rfl⟩
    · show runPure P (do Pure.pure (Value.bool (← Op.equal t (.agg xs) (.agg ys)))) = _; rw [runPure_bind, he]; rfl
    · show runPure P (do Pure.pure (Value.bool (!(← Op.equal t (.agg xs) (.agg ys))))) = _; rw [runPure_bind, he]; rfl
  · -- pointers
    rename_i e hu
    have he0 := rp_ptr0 (hL.und _ _ hu)
    have fin : (a = .pointer none ∧ b = .pointer none ∧ r = true) ∨ ((flat2 a && flat2 b) = false ∧ eqNil (.pointer e) a b = some r) := by
      cases hy : constP y with
      | true =>
        have : b = .pointer none := by
          unfold constP at hy
          split at hy
          · exact hc _ _ hb
          · cases hy
        subst this
        rw [hy] at h
        simp only [cond_true] at h
        unfold isNilP at h
        split at h
        · cases h; exact .inl ⟨rfl, rfl, rfl⟩
        · cases h; exact .inr ⟨rfl, rfl⟩
        · cases h
      | false =>
        rw [hy] at h
        simp only [cond_false] at h
        cases hx : constP x with
        | false => rw [hx] at h; cases h
        | true =>
          have : a = .pointer none := by
            unfold constP at hx
            split at hx
            · exact hc _ _ ha
            · cases hx
          subst this
          rw [hx] at h
          simp only [cond_true] at h
          unfold isNilP at h
          split at h
          · cases h; exact .inl ⟨rfl, rfl, rfl⟩
          · cases h; exact .inr ⟨rfl, rfl⟩
          · cases h
    rcases fin with ⟨rfl, rfl, rfl⟩ | ⟨hf, he⟩
    · refine bin_flat ho ha hb rfl rfl (guard_ptr ..) ?_ hfl
      rcases hv with ⟨rfl, rfl⟩ | ⟨rfl, rfl⟩
      · show runPure P (do Pure.pure (Value.bool (← Op.equal t _ _))) = _; rw [runPure_bind, he0]; rfl
      · show runPure P (do Pure.pure (Value.bool (!(← Op.equal t _ _)))) = _; rw [runPure_bind, he0]; rfl
    · exact bin_nil hS ho ha hb hf hu he v hv
  · rename_i e hu
    have he0 := rp_sl0 (hL.und _ _ hu)
    have fin : (a = .slice none 0 0 ∧ b = .slice none 0 0 ∧ r = true) ∨ ((flat2 a && flat2 b) = false ∧ eqNil (.slice e) a b = some r) := by
      cases hy : constS y with
      | true =>
        have : b = .slice none 0 0 := by
          unfold constS at hy
          split at hy
          · exact hc _ _ hb
          · cases hy
        subst this
        rw [hy] at h
        simp only [cond_true] at h
        unfold isNilS at h
        split at h
        · cases h; exact .inl ⟨rfl, rfl, rfl⟩
        · cases h; exact .inr ⟨rfl, rfl⟩
        · cases h
      | false =>
        rw [hy] at h
        simp only [cond_false] at h
        cases hx : constS x with
        | false => rw [hx] at h; cases h
        | true =>
          have : a = .slice none 0 0 := by
            unfold constS at hx
            split at hx
            · exact hc _ _ ha
            · cases hx
          subst this
          rw [hx] at h
          simp only [cond_true] at h
          unfold isNilS at h
          split at h
          · cases h; exact .inl ⟨rfl, rfl, rfl⟩
          · cases h; exact .inr ⟨rfl, rfl⟩
          · cases h
    rcases fin with ⟨rfl, rfl, rfl⟩ | ⟨hf, he⟩
    · refine bin_flat ho ha hb rfl rfl (guard_sl ..) ?_ hfl
      rcases hv with ⟨rfl, rfl⟩ | ⟨rfl, rfl⟩
      · show runPure P (do Pure.pure (Value.bool (← Op.equal t _ _))) = _; rw [runPure_bind, he0]; rfl
      · show runPure P (do Pure.pure (Value.bool (!(← Op.equal t _ _)))) = _; rw [runPure_bind, he0]; rfl
    · exact bin_nil hS ho ha hb hf hu he v hv
  · rename_i e hu
    have he0 := rp_if0 (hL.und _ _ hu)
    have fin : (a = .nilIface ∧ b = .nilIface ∧ r = true ∧ ((∃ c, x = .const c) ∨ ∃ c, y = .const c)) ∨ ((flat2 a && flat2 b) = false ∧ eqNil (.interface e) a b = some r) := by
      cases hy : constI y with
      | true =>
        have : b = .nilIface ∧ ∃ c, y = .const c := by
          unfold constI at hy
          split at hy
          · exact ⟨hc _ _ hb, _, rfl⟩
          · cases hy
        obtain ⟨rfl, hyc⟩ := this
        rw [hy] at h
        simp only [cond_true] at h
        unfold isNilI at h
        split at h
        · cases h; exact .inl ⟨rfl, rfl, rfl, .inr hyc⟩
        · cases h; exact .inr ⟨rfl, rfl⟩
        · cases h
      | false =>
        rw [hy] at h
        simp only [cond_false] at h
        cases hx : constI x with
        | false => rw [hx] at h; cases h
        | true =>
          have : a = .nilIface ∧ ∃ c, x = .const c := by
            unfold constI at hx
            split at hx
            · exact ⟨hc _ _ ha, _, rfl⟩
            · cases hx
          obtain ⟨rfl, hxc⟩ := this
          rw [hx] at h
          simp only [cond_true] at h
          unfold isNilI at h
          split at h
          · cases h; exact .inl ⟨rfl, rfl, rfl, .inl hxc⟩
          · cases h; exact .inr ⟨rfl, rfl⟩
          · cases h
    rcases fin with ⟨rfl, rfl, rfl, hcc⟩ | ⟨hf, he⟩
    · refine bin_flat ho ha hb rfl rfl (guard_if _ _ _ _ hcc) ?_ hfl
      rcases hv with ⟨rfl, rfl⟩ | ⟨rfl, rfl⟩
      · show runPure P (do Pure.pure (Value.bool (← Op.equal t _ _))) = _; rw [runPure_bind, he0]; rfl
      · show runPure P (do Pure.pure (Value.bool (!(← Op.equal t _ _)))) = _; rw [runPure_bind, he0]; rfl
    · exact bin_nil hS ho ha hb hf hu he v hv
  · cases h

theorem catS_some {a b s : ByteArray} (h : catS a b = some s) : s = a ++ b ∧ a.size + b.size ≤ 9223372036854775807 := by
  unfold catS at h
  cases hb : Nat.ble (a.size + b.size) 9223372036854775807 with
  | false => rw [hb] at h; cases h
  | true => rw [hb] at h; cases h; exact ⟨rfl, Nat.le_of_ble_eq_true hb⟩
theorem sS_run {op : BinOp} {a b : ByteArray} {v : Value} (t : TypeId) (h : sS op a b = some v) : runPure P (binOp op t (.string a) (.string b)) = some v ∧ flat3 v = true ∧ op ≠ .eql ∧ op ≠ .neq := by
  have e1 : (a.toList == b.toList) = eqT a b := by rw [← beq_toListBytes, eqT_toList]
  have e2 : Op.bytesLess a.toList b.toList = ltT a b := by rw [ByteArray.toList_eq, ByteArray.toList_eq]; rfl
  cases op <;> simp only [sS, Option.bind_eq_some_iff, Option.some.injEq, reduceCtorEq] at h
  case add =>
    obtain ⟨s, hs, rfl⟩ := h
    obtain ⟨rfl, hle⟩ := catS_some hs
    refine ⟨?_, rfl, by simp, by simp⟩
    have : ¬ ((a.size + b.size : Nat) : Int) > IntKind.i64.max := by
      have : IntKind.i64.max = 9223372036854775807 := by decide
      omega
    simp only [binOp, Op.stringOp]
    rw [if_neg this]; rfl
  all_goals
    subst h
    refine ⟨?_, rfl, by simp, by simp⟩
    simp only [binOp, Op.stringOp, e1, e2]
    rfl

theorem bin_sound [Sym] (hL : L.Ok P) (hS : LkS L) {op : BinOp} {t yt : TypeId} {x y : Operand} {a b v : Value} (ho : o.op = .binOp op t x y yt) (hc : ∀ c v, ρ (.const c) = some v → v = c)
    (ha : ρ x = some a) (hb : ρ y = some b) (h : binS P L x y op t a b = some v) : OpR P L o ρ st v st := by
  unfold binS at h
  split at h
  · simp only [Option.bind_eq_some_iff, Option.some.injEq] at h
    obtain ⟨r, hr, rfl⟩ := h
    exact eq_sound hL hS ho hc ha hb hr _ (.inl ⟨rfl, rfl⟩)
  · simp only [Option.bind_eq_some_iff, Option.some.injEq] at h
    obtain ⟨r, hr, rfl⟩ := h
    exact eq_sound hL hS ho hc ha hb hr _ (.inr ⟨rfl, rfl⟩)
  · rename_i hn1 hn2
    have hne : op ≠ .eql ∧ op ≠ .neq := ⟨fun e => hn1 e, fun e => hn2 e⟩
    split at h
    · rename_i k hu
      split at h
      · simp only [Option.bind_eq_some_iff] at h
        obtain ⟨n, hn, h⟩ := h
        have e1 := asI_some hn; subst e1
        split at h
        · rename_i k' m
          have := aI_run (P := P) t h
          exact bin_flat ho ha hb rfl rfl (guard_int ..) (this.1 k' (.inl rfl)) this.2
        · cases h
      · simp only [Option.bind_eq_some_iff] at h
        obtain ⟨n, hn, h⟩ := h
        have e1 := asI_some hn; subst e1
        split at h
        · rename_i k' m
          have := aI_run (P := P) t h
          exact bin_flat ho ha hb rfl rfl (guard_int ..) (this.1 k' (.inr (.inl rfl))) this.2
        · cases h
      · simp only [Option.bind_eq_some_iff] at h
        obtain ⟨n, hn, m, hm, h⟩ := h
        have e1 := asI_some hn; subst e1
        have e2 := asI_some hm; subst e2
        have := aI_run (P := P) t h
        exact bin_flat ho ha hb rfl rfl (guard_int ..) (this.1 k (.inr (.inr rfl))) this.2
    · simp only [Option.bind_eq_some_iff] at h
      obtain ⟨p, hp, q, hq, h⟩ := h
      have e1 := asS_some hp; subst e1
      have e2 := asS_some hq; subst e2
      obtain ⟨h1, h2, _⟩ := sS_run (P := P) t h
      exact bin_flat ho ha hb rfl rfl (guard_str ..) h1 h2
    · cases h
end
end Go.E
/- The second evaluator's operations that look, and those that lay new blocks, are sound. -/
set_option linter.unusedSimpArgs false
set_option linter.unusedVariables false
namespace Go.E
open Go

section
variable {P : Program} {L : Lk} {α : Type} {ρ : Operand → Option Value} {o : Oper} {st : SS}

theorem s_move {x : Operand} {v : Value} (ho : o.op = .move x ∨ o.op = .assign x) (hx : ρ x = some v) : OpR P L o ρ st v st := by
  refine .pure fun ρ' hρ => ?_
  unfold pureE
  rcases ho with ho | ho <;> simp only [ho] <;> exact hρ x v hx
theorem s_pick {c a b : Operand} {vc v : Value} {b' : Bool} (ho : o.op = .pick c a b) (hc : ρ c = some vc) (hb : asB vc = some b') (hv : cond b' (ρ a) (ρ b) = some v) : OpR P L o ρ st v st := by
  refine .pure fun ρ' hρ => ?_
  unfold pureE
  have := asB_some hb; subst this
  simp only [ho, hρ c _ hc, Option.bind_some]
  cases b' with
  | true => exact hρ _ _ hv
  | false => exact hρ _ _ hv
theorem s_nilCheck {x : Operand} {u v : Value} (ho : o.op = .nilCheck x) (hx : ρ x = some u) (h : nilC u = some v) : OpR P L o ρ st v st := by
  refine .pure fun ρ' hρ => ?_
  unfold pureE
  simp only [ho, hρ x _ hx, Option.bind_some]
  unfold nilC at h
  split at h <;> cases h <;> rfl
theorem s_unOp {op : UnOp} {t : TypeId} {x : Operand} {v : Value} (ho : o.op = .unOp op t x) (h : pureE P L ρ o = some v) : OpR P L o ρ st v st := by
  refine .pure fun ρ' hρ => ?_
  unfold pureE at h ⊢
  simp only [ho, Option.bind_eq_some_iff] at h ⊢
  obtain ⟨a, ha, h⟩ := h
  exact ⟨a, hρ x a ha, h⟩
theorem s_convert {s d : TypeId} {x : Operand} {v : Value} (ho : o.op = .convert s d x) (h : pureE P L ρ o = some v) : OpR P L o ρ st v st := by
  refine .pure fun ρ' hρ => ?_
  unfold pureE at h ⊢
  simp only [ho, Option.bind_eq_some_iff] at h ⊢
  obtain ⟨a, ha, h⟩ := h
  exact ⟨a, hρ x a ha, h⟩
theorem s_makeInterface {t : TypeId} {x : Operand} {v : Value} (ho : o.op = .makeInterface t x) (h : pureE P L ρ o = some v) : OpR P L o ρ st v st := by
  refine .pure fun ρ' hρ => ?_
  unfold pureE at h ⊢
  simp only [ho, Option.bind_eq_some_iff] at h ⊢
  obtain ⟨a, ha, h⟩ := h
  exact ⟨a, hρ x a ha, h⟩
theorem s_makeFunc {f : Fn} {a b : Array Operand} {v : Value} (ho : o.op = .makeFunc f a b) (h : pureE P L ρ o = some v) : OpR P L o ρ st v st := by
  refine .pure fun ρ' hρ => ?_
  unfold pureE at h ⊢
  cases f <;> simp only [ho, Option.bind_eq_some_iff, reduceCtorEq] at h ⊢
  obtain ⟨xs, hxs, ys, hys, h⟩ := h
  exact ⟨xs, mapM_mono hρ _ _ hxs, ys, mapM_mono hρ _ _ hys, h⟩

/-! slices -/
theorem s_sliceStr {t : TypeId} {x : Operand} {lo hi : Option Operand} {s r : ByteArray} {l h : Int} (ho : o.op = .slice t x lo hi none) (hu : L.und t = some .string) (hx : ρ x = some (.string s))
    (hl : boundS ρ 0 lo = some l) (hh : boundS ρ (s.size : Int) hi = some h) (hr : subS s l h = some r) : OpR P L o ρ st (.string r) st := by
  refine .pure fun ρ' hρ => ?_
  unfold subS at hr
  cases hb : (decide (0 ≤ l) && decide (l ≤ h) && decide (h ≤ (s.size : Int))) with
  | false => rw [hb] at hr; cases hr
  | true =>
    rw [hb] at hr; cases hr
    simp only [Bool.and_eq_true, decide_eq_true_eq] at hb
    obtain ⟨rl, e1, e2⟩ := bound_some hρ hl
    obtain ⟨rh, e3, e4⟩ := bound_some hρ hh
    have hs := sliceE_of (n := s.size) (cap := s.size) (lo := rl) (hi := rh) (l := l) (h := h) (by cases rl <;> simpa using e2) (by cases rh <;> simpa using e4) hb.1.1 hb.1.2 hb.2
    unfold pureE
    simp only [ho, hρ x _ hx, Option.bind_some]
    refine Option.bind_eq_some_iff.2 ⟨rl, e1, Option.bind_eq_some_iff.2 ⟨rh, e3, ?_⟩⟩
    simp only [hu, hs, Option.map_some]
theorem s_sliceArr {t e n z i k : Nat} {x : Operand} {lo hi : Option Operand} {v r : Value} {l h : Int} (ho : o.op = .slice t x lo hi none) (hu : L.und t = some (.array n e)) (hz : L.size e = some z) (hx : ρ x = some v) (ha : addr? v = some (i, k))
    (hl : boundS ρ 0 lo = some l) (hh : boundS ρ (n : Int) hi = some h) (hr : arrSl i k n z l h = some r) : OpR P L o ρ st r st := by
  refine .pure fun ρ' hρ => ?_
  unfold arrSl at hr
  cases hb : (decide (0 ≤ l) && decide (l ≤ h) && decide (h ≤ (n : Int))) with
  | false => rw [hb] at hr; cases hr
  | true =>
    rw [hb] at hr; cases hr
    simp only [Bool.and_eq_true, decide_eq_true_eq] at hb
    obtain ⟨rl, e1, e2⟩ := bound_some hρ hl
    obtain ⟨rh, e3, e4⟩ := bound_some hρ hh
    have hs := sliceE_of (n := n) (cap := n) (lo := rl) (hi := rh) (l := l) (h := h) (by cases rl <;> simpa using e2) (by cases rh <;> simpa using e4) hb.1.1 hb.1.2 hb.2
    have := addr_some ha; subst this
    unfold pureE
    simp only [ho, hρ x _ hx, Option.bind_some]
    refine Option.bind_eq_some_iff.2 ⟨rl, e1, Option.bind_eq_some_iff.2 ⟨rh, e3, ?_⟩⟩
    simp only [hu, hz, Option.bind_some, hs, Option.map_some]
theorem s_sliceSl {t e z : Nat} {x : Operand} {lo hi : Option Operand} {v r : Value} {l h : Int} (ho : o.op = .slice t x lo hi none) (hu : L.und t = some (.slice e)) (hz : L.size e = some z) (hx : ρ x = some v)
    (hl : boundS ρ 0 lo = some l) (hh : (match hi with | none => sliceLen v | some y => (ρ y).bind asN) = some h) (hr : st.resl v z l h = some r) : OpR P L o ρ st r st := by
  have hbl : blindOp L o.op = false := by rw [ho]; simp [blindOp, strT, hu]
  unfold SS.resl at hr
  split at hr
  · -- nil
    refine .pure fun ρ' hρ => ?_
    cases hb : (decide (l = 0) && decide (h = 0)) with
    | false => rw [hb] at hr; cases hr
    | true =>
      rw [hb] at hr; cases hr
      simp only [Bool.and_eq_true, decide_eq_true_eq] at hb
      obtain ⟨rfl, rfl⟩ := hb
      obtain ⟨rl, e1, e2⟩ := bound_some hρ hl
      have : ∃ rh, (match hi with | some v => (ρ' v).map some | none => some none) = some rh ∧ (match rh with | none => (0 : Int) = (0 : Nat) | some v => ∃ k, v = Value.int k 0) := by
        cases hi with
        | none => exact ⟨none, rfl, rfl⟩
        | some y =>
          simp only [Option.bind_eq_some_iff] at hh
          obtain ⟨u, hu', hn⟩ := hh
          exact ⟨some u, by simp [hρ _ _ hu'], asN_some hn⟩
      obtain ⟨rh, e3, e4⟩ := this
      have hs := sliceE_of (n := 0) (cap := 0) (lo := rl) (hi := rh) (l := 0) (h := 0) (by cases rl with | none => simp | some _ => simpa using e2) (by cases rh with | none => simp | some _ => simpa using e4) (by omega) (by omega) (by omega)
      unfold pureE
      simp only [ho, hρ x _ hx, Option.bind_some]
      refine Option.bind_eq_some_iff.2 ⟨rl, e1, Option.bind_eq_some_iff.2 ⟨rh, e3, ?_⟩⟩
      simp only [hu, hz, Option.bind_some, hs, Option.map_some]
  · rename_i i k n cap
    cases hb : (decide (0 ≤ l) && decide (l ≤ h) && decide (h ≤ (cap : Int))) with
    | false => rw [hb] at hr; cases hr
    | true =>
      rw [hb] at hr
      simp only [cond_true, Option.bind_eq_some_iff] at hr
      simp only [Bool.and_eq_true, decide_eq_true_eq] at hb
      obtain ⟨ob, hob, hr⟩ := hr
      split at hr
      · rename_i c z'
        cases hq : (Nat.beq z' z || Nat.beq z' 0) with
        | false => rw [hq] at hr; cases hr
        | true =>
          rw [hq] at hr; cases hr
          refine .read hbl fun ρ' hρ => ?_
          obtain ⟨rl, e1, e2⟩ := bound_some hρ hl
          have : ∃ rh, (match hi with | some v => (ρ' v).map some | none => some none) = some rh ∧ (match rh with | none => h = (n : Int) | some v => ∃ k, v = Value.int k h) := by
            cases hi with
            | none => simp only [sliceLen, Option.some.injEq] at hh; exact ⟨none, rfl, hh.symm⟩
            | some y =>
              simp only [Option.bind_eq_some_iff] at hh
              obtain ⟨u, hu', hn⟩ := hh
              exact ⟨some u, by simp [hρ _ _ hu'], asN_some hn⟩
          obtain ⟨rh, e3, e4⟩ := this
          have hs := sliceE_of (n := n) (cap := cap) (lo := rl) (hi := rh) (l := l) (h := h) (by cases rl <;> simpa using e2) (by cases rh <;> simpa using e4) hb.1.1 hb.1.2 hb.2
          refine ⟨?_, ?_, i, (fun ob => match ob with
            | .cells _ z' => cond (Nat.beq z' z || Nat.beq z' 0) (some (.slice (some ⟨i, cond (Nat.beq cap l.toNat) k (k + l.toNat * z), none⟩) (h.toNat - l.toNat) (cap - l.toNat))) none
            | _ => none), _, ?_, hob, ?_⟩
          · unfold pureE; simp only [ho, hρ x _ hx, Option.bind_some]
            have q1 : ∀ (X : Option (Option Value)) (F : Option Value → Option Value), X = some rl → F rl = none → X.bind F = none := fun X F h1 h2 => by rw [h1]; exact h2
            have q2 : ∀ (X : Option (Option Value)) (F : Option Value → Option Value), X = some rh → F rh = none → X.bind F = none := fun X F h1 h2 => by rw [h1]; exact h2
            exact q1 _ _ e1 (q2 _ _ e3 rfl)
          · unfold allocE; simp only [ho]
          · unfold readE; simp only [ho, hρ x _ hx, Option.bind_some]
            refine Option.bind_eq_some_iff.2 ⟨rl, e1, Option.bind_eq_some_iff.2 ⟨rh, e3, ?_⟩⟩
            simp only [hu, hz, Option.bind_some, hs, Option.map_some]
            rfl
          · simp only [hq, cond_true]
      · cases hr
  · cases hr

theorem s_fieldAddr {s f z i k : Nat} {x : Operand} {v : Value} {fields : Array Field} {fd : Field} (ho : o.op = .fieldAddr s x f) (hx : ρ x = some v) (ha : addr? v = some (i, k)) (hu : L.und s = some (.struct fields)) (hf : fields[f]? = some fd)
    (hz : L.size fd.type = some z) (hn : Nat.beq z 0 = false) : OpR P L o ρ st (ptr i (k + fd.offset)) st := by
  refine .pure fun ρ' hρ => ?_
  unfold pureE
  simp only [ho, hρ x _ hx, Option.bind_some, ha, hu, hf, hz, hn, cond_false]
theorem s_indexArr {t len e z i k : Nat} {x ix : Operand} {a v : Value} {n : Int} (ho : o.op = .indexAddr t x ix) (hx : ρ x = some a) (hi : ρ ix = some v) (hn : asN v = some n) (hu : L.und t = some (.array len e)) (hz : L.size e = some z)
    (hp : elemA a len n z = some (i, k)) : OpR P L o ρ st (ptr i k) st := by
  refine .pure fun ρ' hρ => ?_
  obtain ⟨kk, rfl⟩ := asN_some hn
  unfold elemA at hp
  split at hp
  · cases hb : (decide (0 ≤ n) && decide (n < (len : Int))) with
    | false => rw [hb] at hp; cases hp
    | true =>
      rw [hb] at hp; cases hp
      simp only [Bool.and_eq_true, decide_eq_true_eq] at hb
      unfold pureE
      simp only [ho, hρ x _ hx, hρ ix _ hi, Option.bind_some, asNat?, if_pos hb.1, hu, hz, Option.map_some]
      have : Nat.blt n.toNat len = true := by rw [Nat.blt_eq]; omega
      rw [this]; rfl
  · cases hp
theorem s_indexSl {t e z i k : Nat} {x ix : Operand} {a v : Value} {n : Int} (ho : o.op = .indexAddr t x ix) (hx : ρ x = some a) (hi : ρ ix = some v) (hn : asN v = some n) (hu : L.und t = some (.slice e)) (hz : L.size e = some z)
    (hp : elemS a n z = some (i, k)) : OpR P L o ρ st (ptr i k) st := by
  refine .pure fun ρ' hρ => ?_
  obtain ⟨kk, rfl⟩ := asN_some hn
  unfold elemS at hp
  split at hp
  · rename_i i' k' len cap
    cases hb : (decide (0 ≤ n) && decide (n < (len : Int))) with
    | false => rw [hb] at hp; cases hp
    | true =>
      rw [hb] at hp; cases hp
      simp only [Bool.and_eq_true, decide_eq_true_eq] at hb
      unfold pureE
      simp only [ho, hρ x _ hx, hρ ix _ hi, Option.bind_some, asNat?, if_pos hb.1, hu, hz, Option.map_some]
      have : Nat.blt n.toNat len = true := by rw [Nat.blt_eq]; omega
      rw [this]; rfl
  · cases hp
theorem s_field {t f : Nat} {x : Operand} {a v : Value} (ho : o.op = .field t x f) (hx : ρ x = some a) (h : fldG L t f a = some v) : OpR P L o ρ st v st := by
  refine .pure fun ρ' hρ => ?_
  unfold fldG at h
  split at h
  · rename_i fields hu
    split at h
    · rename_i cs
      unfold pureE
      simp only [ho, hρ x _ hx, Option.bind_some, hu]
      exact h
    · cases h
  · cases h
theorem s_indexStr {t : Nat} {x ix : Operand} {s : ByteArray} {u v : Value} {n : Int} (ho : o.op = .index t x ix) (hx : ρ x = some (.string s)) (hi : ρ ix = some u) (hn : asN u = some n) (hu : L.und t = some .string) (h : idxS s n = some v) :
    OpR P L o ρ st v st := by
  refine .pure fun ρ' hρ => ?_
  obtain ⟨kk, rfl⟩ := asN_some hn
  unfold idxS at h
  cases hb : decide (0 ≤ n) with
  | false => rw [hb] at h; cases h
  | true =>
    rw [hb] at h
    simp only [cond_true, Option.map_eq_some_iff] at h
    obtain ⟨b, hb1, rfl⟩ := h
    have hb := of_decide_eq_true hb
    unfold pureE
    simp only [ho, hρ x _ hx, hρ ix _ hi, Option.bind_some, asNat?, if_pos hb, hu]
    have : s[n.toNat]? = some b := by
      unfold bl at hb1
      rw [Array.getElem?_toList] at hb1
      obtain ⟨h1, h2⟩ := Array.getElem?_eq_some_iff.1 hb1
      have h1' : n.toNat < s.size := h1
      rw [getElem?_pos s n.toNat h1']
      exact congrArg some h2
    rw [this]; rfl
theorem s_indexArrV {t len e : Nat} {x ix : Operand} {a u v : Value} {n : Int} (ho : o.op = .index t x ix) (hx : ρ x = some a) (hi : ρ ix = some u) (hn : asN u = some n) (hu : L.und t = some (.array len e)) (h : aggI L len e a n = some v) :
    OpR P L o ρ st v st := by
  refine .pure fun ρ' hρ => ?_
  obtain ⟨kk, rfl⟩ := asN_some hn
  unfold aggI at h
  cases hb : (decide (0 ≤ n) && decide (n < (len : Int))) with
  | false => rw [hb] at h; cases h
  | true =>
    rw [hb] at h
    simp only [cond_true] at h
    simp only [Bool.and_eq_true, decide_eq_true_eq] at hb
    split at h
    · unfold pureE
      simp only [ho, hρ x _ hx, hρ ix _ hi, Option.bind_some, asNat?, if_pos hb.1, hu]
      have : Nat.blt n.toNat len = true := by rw [Nat.blt_eq]; omega
      rw [this]; exact h
    · cases h
theorem s_extract {ix : Nat} {t : Operand} {a v : Value} (ho : o.op = .extract t ix) (hx : ρ t = some a) (h : tupG a ix = some v) : OpR P L o ρ st v st := by
  refine .pure fun ρ' hρ => ?_
  unfold tupG at h
  split at h
  · unfold pureE
    simp only [ho, hρ t _ hx, Option.bind_some]
    exact h
  · cases h

theorem s_load {t i k : Nat} {x : Operand} {a v : Value} (ho : o.op = .load t x) (hx : ρ x = some a) (ha : addr? a = some (i, k)) (h : st.loadT L t i k = some v) : OpR P L o ρ st v st := by
  refine .read (by rw [ho]; rfl) fun ρ' hρ => ⟨by unfold pureE; simp only [ho], by unfold allocE; simp only [ho], ?_⟩
  have key : ∃ ob, st.mem.get i = some ob ∧ (match ob with | .cells c _ => loadE L t k c | .table c => loadE L t k c | _ => none) = some v := by
    unfold SS.loadT at h
    split at h
    · rename_i f hu
      simp only [Option.bind_eq_some_iff] at h
      obtain ⟨n, hn, h⟩ := h
      unfold SS.ldN at h
      simp only [Option.bind_eq_some_iff] at h
      obtain ⟨ob, hob, h⟩ := h
      refine ⟨ob, hob, ?_⟩
      cases ob <;> simp only [reduceCtorEq] at h ⊢ <;> (unfold loadE; simp only [hu, hn, Option.bind_some]; exact h)
    · rename_i n0 e hu
      simp only [Option.bind_eq_some_iff] at h
      obtain ⟨n, hn, h⟩ := h
      unfold SS.ldN at h
      simp only [Option.bind_eq_some_iff] at h
      obtain ⟨ob, hob, h⟩ := h
      refine ⟨ob, hob, ?_⟩
      cases ob <;> simp only [reduceCtorEq] at h ⊢ <;> (unfold loadE; simp only [hu, hn, Option.bind_some]; exact h)
    · rename_i d h1 h2 hu
      unfold SS.ld at h
      simp only [Option.bind_eq_some_iff] at h
      obtain ⟨ob, hob, h⟩ := h
      refine ⟨ob, hob, ?_⟩
      cases ob <;> simp only [reduceCtorEq] at h ⊢ <;>
        (unfold loadE; rw [hu]; cases d <;> first | exact h | exact absurd rfl (h1 _) | exact absurd rfl (h2 _ _))
    · cases h
  obtain ⟨ob, hob, h⟩ := key
  refine ⟨i, (fun ob => match ob with | .cells c _ => loadE L t k c | .table c => loadE L t k c | _ => none), ob, ?_, hob, h⟩
  unfold readE
  simp only [ho, hρ x _ hx, Option.bind_some, ha, Option.map_some]
  rfl

theorem s_bytes [Sym] (hL : L.Ok P) {s d e : TypeId} {x : Operand} {v : Value} {r : ByteArray} (ho : o.op = .convert s d x) (hs : L.und s = some (.slice e)) (hd : L.und d = some .string) (he : L.und e = some (.int .u8)) (hx : ρ x = some v) (h : st.bytes v = some r) :
    OpR P L o ρ st (.string r) st := by
  unfold SS.bytes at h
  split at h
  · cases h
    refine .pure fun ρ' hρ => ?_
    unfold pureE
    simp only [ho, hρ x _ hx, Option.bind_some, flat1, cond_true]
    refine pv_of ?_ rfl
    unfold convert
    simp only [runPure_bind, runPure_und (hL.und _ _ hs), runPure_und (hL.und _ _ hd), runPure_und (hL.und _ _ he), Option.bind_some]
    rfl
  · rename_i i k n cap
    simp only [Option.bind_eq_some_iff] at h
    obtain ⟨ob, hob, h⟩ := h
    refine .read (by rw [ho]; simp [blindOp, intT, hs]) fun ρ' hρ => ⟨?_, by unfold allocE; simp only [ho, hρ x _ hx, Option.bind_some, hs, hd], ?_⟩
    · unfold pureE; simp only [ho, hρ x _ hx, Option.bind_some]; rfl
    · cases ob <;> simp only [reduceCtorEq] at h
      rename_i c z
      refine ⟨i, (fun ob => match ob with
        | .cells c _ => (cut c k n).bind fun d => (bytesE d).map fun l => .string ⟨l.toArray⟩
        | _ => none), _, ?_, hob, ?_⟩
      · unfold readE; simp only [ho, hρ x _ hx, Option.bind_some, hs, hd, he]; rfl
      · simp only [Option.bind_eq_some_iff, Option.map_eq_some_iff] at h ⊢
        obtain ⟨d', hd', l, hl, rfl⟩ := h
        exact ⟨d', hd', l, hl, rfl⟩
  · cases h

/-! new blocks -/
theorem s_alloc {e : TypeId} {ob : AObj} {vf : Nat → Value} (ho : (∃ e, o.op = .alloc e) ∨ (∃ e x, o.op = .box e x) ∨ (∃ t x, o.op = .range t x) ∨ ∃ t, o.op = .makeMap t none) (h : allocE L ρ o = some (ob, vf)) : OpR P L o ρ st (vf st.next) (st.new ob) := by
  refine .alloc fun ρ' hρ => ?_
  rcases ho with ⟨e, ho⟩ | ⟨e, x, ho⟩ | ⟨t, x, ho⟩ | ⟨t, ho⟩
  · refine ⟨by unfold pureE; simp only [ho], vf, ?_, rfl⟩
    unfold allocE at h ⊢; simp only [ho] at h ⊢; exact h
  · refine ⟨by unfold pureE; simp only [ho], vf, ?_, rfl⟩
    unfold allocE at h ⊢; simp only [ho, Option.map_eq_some_iff] at h ⊢
    obtain ⟨u, hu, h⟩ := h; exact ⟨u, hρ _ _ hu, h⟩
  · refine ⟨by unfold pureE; simp only [ho], vf, ?_, rfl⟩
    unfold allocE at h ⊢; simp only [ho, Option.bind_eq_some_iff] at h ⊢
    obtain ⟨u, hu, h⟩ := h; exact ⟨u, hρ _ _ hu, h⟩
  · refine ⟨by unfold pureE; simp only [ho], vf, ?_, rfl⟩
    unfold allocE at h ⊢; simp only [ho] at h ⊢; exact h
theorem s_toBytes [Sym] (hL : L.Ok P) {s d : TypeId} {x : Operand} {ob : AObj} {vf : Nat → Value} {e : TypeId} (ho : o.op = .convert s d x) (hs : L.und s = some .string) (hd : L.und d = some (.slice e)) (h : allocE L ρ o = some (ob, vf)) :
    OpR P L o ρ st (vf st.next) (st.new ob) := by
  refine .alloc fun ρ' hρ => ?_
  unfold allocE at h
  simp only [ho, Option.bind_eq_some_iff, hs, hd] at h
  obtain ⟨v, hv, h⟩ := h
  split at h <;> try cases h
  rename_i e' b h1 h2
  cases h2
  split at h <;> try cases h
  rename_i he
  refine ⟨?_, (fun n => .slice (some ⟨n, 0, none⟩) b.size b.size), ?_, rfl⟩
  · unfold pureE
    simp only [ho, hρ x _ hv, Option.bind_some, flat1, cond_true]
    unfold pureV convert
    simp only [runPure_bind, runPure_und (hL.und _ _ hs), runPure_und (hL.und _ _ hd), runPure_und (hL.und _ _ he), Option.bind_some]
    rfl
  · unfold allocE
    simp only [ho, hρ x _ hv, Option.bind_some, hs, hd, he]
end
end Go.E
