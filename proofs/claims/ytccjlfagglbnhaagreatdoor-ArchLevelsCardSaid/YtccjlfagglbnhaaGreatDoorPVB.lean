/- Parts of the proof of ArchLevels, packed by a program: an evaluator over the given code, functions as plain texts, their laws. -/
import Derived.Deep.Slices
import Derived.ChangeArms
import Derived.WideShapes
import Derived.Test.YtccjlfagglbnhaaGreatDoorPVA
set_option linter.unusedVariables false
set_option linter.unusedSimpArgs false
namespace Go.E
open Go
structure SS where
 mem:PT AObj
 next:Nat
 lim:Nat
noncomputable def SS.new (st:SS) (ob:AObj):SS:=⟨st.mem.upd st.next (some ob),st.next+1,st.lim⟩
noncomputable def SS.set (st:SS) (i:Nat) (ob:Option AObj):SS:=⟨st.mem.upd i ob,st.next,st.lim⟩
def SS.ro (st:SS) (l:Nat):SS:=⟨st.mem,st.next,l⟩
def SS.adv (st:SS) (n:Nat):SS:=⟨st.mem,n,st.lim⟩
def asI (k:IntKind):Value→Option Int
 | .int k' n=>cond (Nat.beq (kn k) (kn k')) (some n) none
 | _=>none
def asB:Value→Option Bool
 | .bool b=>some b
 | _=>none
def asS:Value→Option ByteArray
 | .string s=>some s
 | _=>none
inductive Sh where
 | int (k:IntKind)
 | bool
 | str
 | any
def Sh.of:TypeDesc→Sh
 | .int k=>.int k
 | .bool=>.bool
 | .string=>.str
 | _=>.any
def Lk.sh (L:Lk) (t:TypeId):Sh:=match L.und t with
 | some d=>Sh.of d
 | none=>.any
def za0 {α:Type} (s:Sh) (ov:Option Value) (K:Value→Option α):Option α:=match s with
 | .int k=>(ov.bind (asI k)).bind fun n=>K (.int k n)
 | .bool=>(ov.bind asB).bind fun b=>K (.bool b)
 | .str=>(ov.bind asS).bind fun s=>K (.string s)
 | .any=>ov.bind K
def bl (s:ByteArray):List UInt8:=s.data.toList
def shlI (k:IntKind) (x y:Int):Int:=k.wrap (x*2^(min y.toNat k.bits))
def zdQ (k:IntKind) (x y:Int):Int:=x.fdiv (2^(min y.toNat k.bits))
def zeu (k:IntKind) (x y:Int):Int:=k.wrap ((BitVec.ofInt k.bits x&&& BitVec.ofInt k.bits y).toNat:Nat)
def orI (k:IntKind) (x y:Int):Int:=k.wrap ((BitVec.ofInt k.bits x||| BitVec.ofInt k.bits y).toNat:Nat)
def xorI (k:IntKind) (x y:Int):Int:=k.wrap ((BitVec.ofInt k.bits x^^^BitVec.ofInt k.bits y).toNat:Nat)
def zgG (k:IntKind) (x y:Int):Int:=k.wrap ((BitVec.ofInt k.bits x&&& ~~~ (BitVec.ofInt k.bits y)).toNat:Nat)
def aI (op:BinOp) (k:IntKind) (a b:Int):Option Value:=match op with
 | .add=>some (.int k (k.wrap (a+b)))
 | .sub=>some (.int k (k.wrap (a-b)))
 | .mul=>some (.int k (k.wrap (a*b)))
 | .quo=>cond (decide (b=0)) none (some (.int k (k.wrap (a.tdiv b))))
 | .rem=>cond (decide (b=0)) none (some (.int k (a.tmod b)))
 | .and=>some (.int k (zeu k a b))
 | .or=>some (.int k (orI k a b))
 | .xor=>some (.int k (xorI k a b))
 | .andNot=>some (.int k (zgG k a b))
 | .shl=>cond (decide (b<0)) none (some (.int k (shlI k a b)))
 | .shr=>cond (decide (b<0)) none (some (.int k (zdQ k a b)))
 | .lss=>some (.bool (decide (a<b)))
 | .leq=>some (.bool (decide (a≤b)))
 | .gtr=>some (.bool (decide (b<a)))
 | .geq=>some (.bool (decide (b≤a)))
 | .eql=>some (.bool (decide (a=b)))
 | .neq=>some (.bool (!decide (a=b)))
def catS (a b:ByteArray):Option ByteArray:=cond (Nat.ble (a.size+b.size) 9223372036854775807) (some (a++b)) none
def ltT (a b:ByteArray):Bool:=Op.bytesLess a.data.toList b.data.toList
def sS (op:BinOp) (a b:ByteArray):Option Value:=match op with
 | .add=>(catS a b).bind fun s=>some (.string s)
 | .lss=>some (.bool (ltT a b))
 | .leq=>some (.bool (ltT a b||eqT a b))
 | .gtr=>some (.bool (!(ltT a b||eqT a b)))
 | .geq=>some (.bool (!ltT a b))
 | _=>none
def zeV:Value→Option Bool
 | .pointer none=>some true
 | .pointer (some _)=>some false
 | _=>none
def zeW:Value→Option Bool
 | .slice none 0 0=>some true
 | .slice (some _) _ _=>some false
 | _=>none
def zeX:Value→Option Bool
 | .nilIface=>some true
 | .iface _ _=>some false
 | _=>none
def zc0:Operand→Bool
 | .const (.pointer none)=>true
 | _=>false
def zc1:Operand→Bool
 | .const (.slice none 0 0)=>true
 | _=>false
def zc2:Operand→Bool
 | .const .nilIface=>true
 | _=>false
def eqFs (eq:TypeId→Value→Value→Option Bool) (L:Lk) (xs ys:Array Value):List Field→Option Bool
 | []=>some true
 | f::fs=>(zbE L f.type xs f.offset).bind fun p=>(zbE L f.type ys f.offset).bind fun q=>(eq f.type p q).bind fun r=>(eqFs eq L xs ys fs).bind fun s=>some (r&&s)
def eqEs (eq:Value→Value→Option Bool) (L:Lk) (e z:Nat) (xs ys:Array Value):(left:Nat)→(i:Nat)→Option Bool
 | 0,_=>some true
 | n+1,i=>(zbE L e xs (i*z)).bind fun p=>(zbE L e ys (i*z)).bind fun q=>(eq p q).bind fun r=>(eqEs eq L e z xs ys n (i+1)).bind fun s=>some (r&&s)
def eqD (P:Program) (L:Lk):Nat→TypeId→Value→Value→Option Bool
 | 0,_,_,_=>none
 | d+1,t,a,b=>match L.und t with
   | some (.int k)=>(asI k a).bind fun x=>(asI k b).bind fun y=>some (decide (x=y))
   | some .bool=>(asB a).bind fun x=>(asB b).bind fun y=>some (x==y)
   | some .string=>(asS a).bind fun x=>(asS b).bind fun y=>some (eqT x y)
   | some (.struct fs)=>(match a,b with
     | .agg xs,.agg ys=>cond ((fs.toList.all fun f=>f.name != "_")&&!P.stoodInHeld t) (eqFs (eqD P L d) L xs ys fs.toList) none
     | _,_=>none)
   | some (.array n e)=>(match a,b with
     | .agg xs,.agg ys=>(L.size e).bind fun z=>eqEs (eqD P L d e) L e z xs ys n 0
     | _,_=>none)
   | _=>none
def eqA (P:Program) (L:Lk) (t:TypeId) (a b:Value):Option Bool:=match a,b with
 | .agg xs,.agg ys=>cond (zaf (.agg xs)&&zaf (.agg ys)&&!(P.eqGuardType P.depth t)) (eqD P L 20 t (.agg xs) (.agg ys)) none
 | _,_=>none
def eqS (P:Program) (L:Lk) (x y:Operand) (t:TypeId) (a b:Value):Option Bool:=match L.und t with
 | some (.int k)=>(asI k a).bind fun x=>(asI k b).bind fun y=>some (decide (x=y))
 | some .bool=>(asB a).bind fun x=>(asB b).bind fun y=>some (x==y)
 | some .string=>(asS a).bind fun x=>(asS b).bind fun y=>some (eqT x y)
 | some (.struct _) | some (.array _ _)=>eqA P L t a b
 | some (.pointer _)=>cond (zc0 y) (zeV a) (cond (zc0 x) (zeV b) none)
 | some (.slice _)=>cond (zc1 y) (zeW a) (cond (zc1 x) (zeW b) none)
 | some (.interface _)=>cond (zc2 y) (zeX a) (cond (zc2 x) (zeX b) none)
 | _=>none
def binS (P:Program) (L:Lk) (x y:Operand) (op:BinOp) (t:TypeId) (a b:Value):Option Value:=match op with
 | .eql=>(eqS P L x y t a b).bind fun r=>some (.bool r)
 | .neq=>(eqS P L x y t a b).bind fun r=>some (.bool !r)
 | op=>match L.und t with
   | some (.int k)=>(match op with
     | .shl | .shr=>(asI k a).bind fun n=>(match b with
       | .int _ m=>aI op k n m
       | _=>none)
     | _=>(asI k a).bind fun n=>(asI k b).bind fun m=>aI op k n m)
   | some .string=>(asS a).bind fun p=>(asS b).bind fun q=>sS op p q
   | _=>none
def shBin (L:Lk) (op:BinOp) (t:TypeId):Sh:=match op with
 | .eql | .neq | .lss | .leq | .gtr | .geq=>.bool
 | _=>L.sh t
def nilC:Value→Option Value
 | .pointer (some a)=>some (.pointer (some a))
 | .func (.func f) xs ys=>some (.func (.func f) xs ys)
 | _=>none
def zeY (v:Value) (n:Nat):Option (List Value):=cond (Nat.beq v.cells.size n) (some v.cells.toList) none
def spl (l:List Value) (off:Nat) (c:List Value):List Value:=l.take off++(c++l.drop (off+c.length))
def zcE {α:Type} (ρ:Operand→Option Value) (pl:Nat→Option (Nat×Nat)):List (Nat×Operand)→List Value→(List Value→Option α)→Option α
 | [],l,K=>K l
 | x::r,l,K=>(ρ x.2).bind fun v=>(pl x.1).bind fun os=>(zeY v os.2).bind fun c=>zcE ρ pl r (spl l os.1 c) K
def zdR {α:Type} (ρ:Operand→Option Value) (z:Nat):List (Nat×Operand)→Nat→(List Value→Option α)→Option α
 | [],_,K=>K []
 | x::r,i,K=>cond (Nat.beq x.1 i) ((ρ x.2).bind fun v=>(zeY v z).bind fun c=>zdR ρ z r (i+1) fun l=>K (c++l)) none
def zd1 (L:Lk) (fields:Array Field) (i:Nat):Option (Nat×Nat):=(fields[i]?).bind fun f=>(L.size f.type).bind fun z=>some (f.offset,z)
def asN:Value→Option Int
 | .int _ n=>some n
 | _=>none
def za7 (ρ:Operand→Option Value) (d:Int):Option Operand→Option Int
 | none=>some d
 | some x=>(ρ x).bind asN
def subS (s:ByteArray) (l h:Int):Option ByteArray:=cond (decide (0≤l)&&decide (l≤h)&&decide (h≤(s.size:Int))) (some (s.extract l.toNat h.toNat)) none
def idxS (s:ByteArray) (n:Int):Option Value:=cond (decide (0≤n)) ((bl s)[n.toNat]?.map fun b=>.int .u8 b.toNat) none
def tupG (v:Value) (i:Nat):Option Value:=match v with
 | .tuple vs=>vs[i]?
 | _=>none
def zfo (L:Lk) (t:TypeId) (f:Nat) (v:Value):Option Value:=match L.und t with
 | some (.struct fields)=>(match v with
   | .agg cs=>(fields[f]?).bind fun fd=>zbE L fd.type cs fd.offset
   | _=>none)
 | _=>none
def aggI (L:Lk) (len e:Nat) (v:Value) (n:Int):Option Value:=cond (decide (0≤n)&&decide (n<(len:Int))) (match v with
 | .agg cs=>(L.size e).bind fun z=>zbE L e cs (n.toNat*z)
 | _=>none) none
def lenV:Value→Option Value
 | .slice _ n _=>some (.int .i64 (n:Int))
 | _=>none
def zbG (v:Value) (n:Int) (z:Nat):Option (Nat×Nat):=match v with
 | .slice (some ⟨i,k,none⟩) len _=>cond (decide (0≤n)&&decide (n<(len:Int))) (some (i,k+n.toNat*z)) none
 | _=>none
def zg0 (v:Value) (len:Nat) (n:Int) (z:Nat):Option (Nat×Nat):=match v with
 | .pointer (some ⟨i,k,none⟩)=>cond (decide (0≤n)&&decide (n<(len:Int))) (some (i,k+n.toNat*z)) none
 | _=>none
noncomputable def SS.ld (st:SS) (i k:Nat):Option Value:=(st.mem.get i).bind fun ob=>match ob with
 | .cells c _=>c[k]?
 | .table c=>c[k]?
 | _=>none
noncomputable def SS.ldN (st:SS) (i k n:Nat):Option Value:=(st.mem.get i).bind fun ob=>match ob with
 | .cells c _=>(cut c k n).map fun d=>.agg d.toArray
 | .table c=>(cut c k n).map fun d=>.agg d.toArray
 | _=>none
noncomputable def SS.loadT (L:Lk) (st:SS) (t:TypeId) (i k:Nat):Option Value:=match L.und t with
 | some (.struct _) | some (.array _ _)=>(L.size t).bind fun n=>st.ldN i k n
 | some _=>st.ld i k
 | none=>none
noncomputable def SS.rd (st:SS) (i k:Nat):Option Value:=(st.mem.get i).bind fun ob=>match ob with
 | .cells c _=>c[k]?
 | _=>none
noncomputable def SS.rdN (st:SS) (i k n:Nat):Option Value:=(st.mem.get i).bind fun ob=>match ob with
 | .cells c _=>(cut c k n).map fun d=>.agg d.toArray
 | _=>none
noncomputable def SS.readT (L:Lk) (st:SS) (t:TypeId) (i k:Nat):Option Value:=match L.und t with
 | some (.struct _) | some (.array _ _)=>(L.size t).bind fun n=>st.rdN i k n
 | some _=>st.rd i k
 | none=>none
noncomputable def SS.st (s:SS) (i k:Nat) (vs:List Value):Option SS:=cond (Nat.ble s.lim i) ((s.mem.get i).bind fun ob=>match ob with
 | .cells c z=>cond (vs.all one) ((zbk c k vs).map fun c'=>s.set i (some (.cells c' z))) none
 | _=>none) none
noncomputable def SS.stV (s:SS) (i k n:Nat) (v:Value):Option SS:=cond (Nat.beq v.cells.size n) (s.st i k v.cells.toList) none
noncomputable def SS.resl (st:SS) (v:Value) (size:Nat) (l h:Int):Option Value:=match v with
 | .slice none 0 0=>cond (decide (l=0)&&decide (h=0)) (some (.slice none 0 0)) none
 | .slice (some ⟨i,k,none⟩) n cap=>cond (decide (0≤l)&&decide (l≤h)&&decide (h≤(cap:Int))) ((st.mem.get i).bind fun ob=>match ob with
   | .cells _ z=>cond (Nat.beq z size||Nat.beq z 0) (some (.slice (some ⟨i,cond (Nat.beq cap l.toNat) k (k+l.toNat*size),none⟩) (h.toNat-l.toNat) (cap-l.toNat))) none
   | .table _=>some (.slice (some ⟨i,cond (Nat.beq cap l.toNat) k (k+l.toNat*size),none⟩) (h.toNat-l.toNat) (cap-l.toNat))
   | _=>none) none
 | _=>none
def sliceLen:Value→Option Int
 | .slice _ n _=>some (n:Int)
 | _=>none
def zg1 (i k n size:Nat) (l h:Int):Option Value:=cond (decide (0≤l)&&decide (l≤h)&&decide (h≤(n:Int)))
 (some (.slice (some ⟨i,cond (Nat.beq n l.toNat) k (k+l.toNat*size),none⟩) (h.toNat-l.toNat) (n-l.toNat))) none
noncomputable def SS.bytes (st:SS) (v:Value):Option ByteArray:=match v with
 | .slice none 0 0=>some ⟨#[]⟩
 | .slice (some ⟨i,k,none⟩) n _=>(st.mem.get i).bind fun ob=>match ob with
   | .cells c _=>(cut c k n).bind fun d=>(zcs d).map fun l=>⟨l.toArray⟩
   | _=>none
 | _=>none
noncomputable def SS.iterG (st:SS) (i:Nat):Option (ByteArray×Nat):=(st.mem.get i).bind fun ob=>match ob with
 | .iter s p=>some (s,p)
 | _=>none
noncomputable def SS.mapF (st:SS) (m:Value) (k:ByteArray):Option (Option Value):=match m with
 | .map (some i)=>(st.mem.get i).bind fun ob=>match ob with
   | .map l=>some (zbF k l)
   | _=>none
 | _=>none
noncomputable def SS.mapP (st:SS) (m:Value) (k:ByteArray) (v:Value):Option SS:=match m with
 | .map (some i)=>cond (Nat.ble st.lim i) ((st.mem.get i).bind fun ob=>match ob with
   | .map l=>some (st.set i (some (.map (zb1 k v l))))
   | _=>none) none
 | _=>none
def optE {α β:Type} (r:Option α) (n:β) (s:α→β):β:=match r with
 | none=>n
 | some x=>s x
noncomputable def SS.first (st:SS) (sz n:Nat):Value→Option (List Value)
 | .slice (some ⟨i,k,none⟩) _ _=>(st.mem.get i).bind fun ob=>match ob with
   | .cells c _=>cut c k (n*sz)
   | _=>none
 | .slice none _ _=>cond (Nat.beq n 0) (some []) none
 | .string s=>cond (Nat.beq sz 1) (cut (s.data.toList.map fun b=>.int .u8 b.toNat) 0 n) none
 | _=>none
noncomputable def SS.app (st:SS) (sz by':Nat) (s x:Value):Option (Value×SS):=(zbI x).bind fun n=>match s with
 | .slice none 0 0=>
   cond (Nat.beq n 0) (some (s,st))
    (cond (Nat.ble ((n+1)*by') (2^44)&&Nat.ble n (2^44))
     ((st.first sz n x).bind fun new=>some (.slice (some ⟨st.next,0,none⟩) n n,st.new (.cells new sz))) none)
 | .slice (some ⟨j,k,none⟩) len cap=>
   cond (Nat.beq n 0) (some (s,st))
    (cond (Nat.ble ((len+n+1)*by') (2^44)&&Nat.ble (len+n) (2^44)&&Nat.ble st.lim j)
     ((st.mem.get j).bind fun ob=>match ob with
     | .cells c z=>
       cond (Nat.beq z sz&&(Nat.blt cap (len+n)||Nat.ble (k+cap*sz) c.length))
        ((cut c k (len*sz)).bind fun old=>(st.first sz n x).bind fun new=>
          cond (new.all one) (some (.slice (some ⟨st.next,0,none⟩) (len+n) (len+n),(st.set j none).new (.cells (old++new) sz))) none) none
     | _=>none) none)
 | _=>none
noncomputable def SS.cpy (st:SS) (sz:Nat) (d x:Value):Option (Value×SS):=(zbI x).bind fun n=>match d with
 | .slice (some ⟨i,k,none⟩) len _=>(st.first sz (Nat.min n len) x).bind fun new=>(st.st i k new).map fun st=>(.int .i64 (Nat.min n len:Nat),st)
 | .slice none 0 0=>some (.int .i64 0,st)
 | _=>none
noncomputable def SS.clr (st:SS) (zero:List Value) (x:Value):Option SS:=match x with
 | .slice none _ _ | .slice _ 0 _=>some st
 | .slice (some ⟨i,k,none⟩) n _=>st.st i k (Builtin.zeroCells zero.toArray n).toList
 | _=>none
def zf7 (zero:List Value) (n:Int):List Value:=((Array.range (n.toNat*zero.length)).map (zero.toArray[·%zero.length]!)).toList
def zg2 (n c:Int) (bytes:Nat):Option Unit:=cond (decide (0≤n)&&decide (n≤c)&&decide (c≤1099511627776)&&decide (c*(bytes:Int)≤70368744177664)) (some ()) none
structure LoopI where
 ins:List (Tmp×Sh)
 exits:List (Ex×List (Tmp×Sh))
def zaA:Code→Nat
 | .region id _ _=>id
 | .seq a _=>zaA a
 | .block _ b=>zaA b
 | .loop b=>zaA b
 | _=>0
def zal:Code→List Code
 | .seq a b=>zal a++zal b
 | .cond _ a b=>zal a++zal b
 | .block _ b=>zal b
 | .loop b=>b::zal b
 | _=>[]
def zbT (fn:Func) (key:Nat):Code:=match fn.body with
 | none=>.skip
 | some c=>match (zal c).filter fun b=>Nat.beq (zaA b) key with
   | [b]=>b
   | _=>.skip
def noLi:Nat→Option LoopI:=fun _=>none
def zbt:Code→Nat
 | .region id _ _=>id+1
 | .seq a b=>cond (Nat.beq (zbt a) 0) (zbt b) (zbt a)
 | .cond _ a b=>cond (Nat.beq (zbt a) 0) (zbt b) (zbt a)
 | .block _ b=>zbt b
 | .loop b=>zbt b
 | _=>0
def zaC:Code→List Code
 | .seq a b=>b::(zaC a++zaC b)
 | .cond _ a b=>zaC a++zaC b
 | .block _ b=>zaC b
 | .loop b=>zaC b
 | _=>[]
def zbU (b:Code):Nat:=1000000+zbt b
noncomputable def Tm.get? (τ:Tm) (i:Nat):Option Value:=τ.t.get i
noncomputable def zb8 (τ:Tm):List (Tmp×Sh)→Option (List Value)
 | []=>some []
 | x::r=>(τ.get? x.1).bind fun v=>(zb8 τ r).bind fun vs=>some (v::vs)
noncomputable def zc3 {α:Type} (vs:List Value):List (Tmp×Sh)→Nat→Tm→(Tm→Option α)→Option α
 | [],_,τ,K=>K τ
 | x::r,i,τ,K=>za0 x.2 (vs[i]?) fun v=>zc3 vs r (i+1) (τ.put (some x.1) v) K
noncomputable def za8:List (Tmp×Sh)→List Value→PT Value→PT Value
 | x::r,v::vs,t=>za8 r vs (t.upd x.1 (some v))
 | _,_,t=>t
def zfQ:Ex→Ex→Bool
 | .normal,.normal=>true
 | .ret,.ret=>true
 | .exit i,.exit j=>Nat.beq i j
 | _,_=>false
def zcF (e:Ex):List (Ex×List (Tmp×Sh))→Nat→Option (Nat×List (Tmp×Sh))
 | [],_=>none
 | x::r,i=>cond (zfQ e x.1) (some (i,x.2)) (zcF e r (i+1))
def zeZ:List (Tmp×Sh)→Bool
 | []=>true
 | x::r=>(r.all fun y=>!Nat.beq x.1 y.1)&&zeZ r
abbrev zaW:=FuncId→List Value→SS→Option (Value×SS)
abbrev zaJ:=Nat→List Value→SS→Option (Nat×List Value×SS)
def zc4 {α:Type} (n:Nat) (K:Ex→List (Tmp×Sh)→Option α):List (Ex×List (Tmp×Sh))→Nat→Option α
 | [],_=>none
 | [x],_=>K x.1 x.2
 | x::y::r,i=>cond (Nat.beq n i) (K x.1 x.2) (zc4 n K (y::r) (i+1))
def strT (L:Lk) (t:TypeId):Bool:=match L.und t with
 | some .string=>true
 | some (.array _ _)=>true
 | _=>false
def intT (L:Lk) (t:TypeId):Bool:=match L.und t with
 | some (.int _)=>true
 | _=>false
def blindOp (L:Lk):Op→Bool
 | .move _ | .assign _ | .pick _ _ _ | .alloc _ | .box _ _ | .build _ _ | .buildSlice _ _ _ | .nilCheck _ | .binOp _ _ _ _ _ | .unOp _ _ _ | .makeInterface _ _ | .makeFunc _ _ _ | .fieldAddr _ _ _ | .field _ _ _
 | .indexAddr _ _ _ | .index _ _ _ | .extract _ _ | .makeSlice _ _ _ | .range _ _ | .makeMap _ _=>true
 | .slice t _ _ _ _=>strT L t
 | .convert s d _=>intT L s&&intT L d
 | .call { callee:=.builtin .len,.. }=>true
 | .call { callee:=.builtin .min,.. }=>true
 | .call { callee:=.builtin .max,.. }=>true
 | _=>false
def genOp:Op→Bool
 | .store _ _ _ | .next _ _ | .mapUpdate _ _ _ _=>true
 | .call { callee:=.value _,.. }=>true
 | .call { callee:=.builtin .append,.. }=>true
 | .call { callee:=.builtin .copy,.. }=>true
 | .call { callee:=.builtin .clear,.. }=>true
 | _=>false
def zd2 (ps:List Nat) (o:Oper):Nat:=o.after.toList.foldl (fun m e=>cond (binding e) (m||| (ps[e.on]?).getD 0) m) 0
def zah:List Oper→List Nat→List Nat
 | [],ps=>ps
 | o::r,ps=>zah r (ps++[zd2 ps o||| (1<<<ps.length)])
def partner (ps:List Nat) (j k:Nat):Bool:=cond (Nat.blt k j) (!((ps[j]?).getD 0).testBit k) (!((ps[k]?).getD 0).testBit j)
def mustRo (L:Lk) (ops:List Oper) (ps:List Nat) (j:Nat):Bool:=(match ops[j]? with
 | some o=>genOp o.op
 | none=>false)&&(List.range ops.length).any fun k=>!(Nat.beq k j)&&partner ps j k&&match ops[k]? with
 | some o=>!blindOp L o.op
 | none=>false
def zf8 (ops:Array Oper) (ps:List Nat) (a b:Oper) (k j:Nat):Bool:=(((ps[j]?).getD 0).testBit k||a.apart ops b)&&(a.dst !=b.dst||a.dst==none)
def ze0 (ops:Array Oper):Bool:=
 let l:=ops.toList
 let ps:=zah l []
 (List.range l.length).all fun j=>match l[j]? with
  | some b=>(b.after.all fun e=>!binding e||Nat.blt e.on j)&&(List.range j).all fun k=>match l[k]? with
    | some a=>zf8 ops ps a b k j
    | none=>false
  | none=>false
def zgH (o:Oper):Option Tmp:=match o.op,o.guard with
 | .load _ (.tmp t),none=>some t
 | _,_=>none
def zfp (o:Oper):Bool:=match o.op,o.guard with
 | .store _ _ _,none=>true
 | _,_=>false
def unwr (ops:List Oper) (t:Tmp) (k j:Nat):Bool:=((ops.drop k).take (j-k)).all fun o=>cond (o.dst==some t) false true
def zcp (L:Lk) (o:Oper):Option Tmp:=match o.op,o.guard with
 | .load _ (.tmp t),none=>some t
 | .slice ty (.tmp t) _ _ none,none=>cond (strT L ty) none (some t)
 | _,_=>none
def ze1 (L:Lk) (ops:List Oper) (ps:List Nat) (j k:Nat):Option Tmp:=match ops[k]? with
 | some o=>(zcp L o).bind fun t=>cond (Nat.blt k j&&partner ps j k&&unwr ops t k j) (some t) none
 | none=>none
def softOk (L:Lk) (ops:List Oper) (ps:List Nat) (j:Nat):Bool:=(match ops[j]? with
 | some o=>zfp o
 | none=>false)&&(List.range ops.length).all fun k=>Nat.beq k j||!partner ps j k||(match ops[k]? with
 | some o=>blindOp L o.op
 | none=>true)||(ze1 L ops ps j k).isSome
def zdr (L:Lk) (ops:List Oper) (ps:List Nat) (j:Nat):List Tmp:=(List.range j).filterMap (ze1 L ops ps j)
def zbq (ops:List Oper) (k:Nat) (a:Tmp):Option Tmp:=
 (match (ops.take k).reverse.find? (fun (o:Oper)=>o.dst==some a) with
  | some o=>(match o.op,o.guard with
    | .fieldAddr _ (.tmp t) _,none=>some t
    | _,_=>none)
  | none=>some a).bind fun t=>cond (ops.all fun (o:Oper)=>!(o.dst==some t)) (some t) none
def zev (ops:List Oper) (k:Nat):Option Tmp:=match ops[k]? with
 | some o=>(zgH o).bind fun a=>zbq ops k a
 | none=>none
def barO (L:Lk) (ops:List Oper) (ps:List Nat) (j k:Nat):Option (Option Tmp):=match ops[k]? with
 | some o=>cond (!(Nat.beq k j)&&partner ps j k&&!blindOp L o.op) (some (zev ops k)) none
 | none=>none
def barT (L:Lk) (ops:List Oper) (ps:List Nat) (j:Nat):Option Tmp:=match ops[j]? with
 | some o=>(match o.op,o.guard with
   | .call { callee:=.value (.func f),.. },none=>cond (L.barF f) (
     match (List.range ops.length).filterMap (barO L ops ps j) with
     | some t::r=>cond (r.all fun x=>x==some t) (some t) none
     | _=>none) none
   | _,_=>none)
 | none=>none
def zau (L:Lk) (ops:List Oper) (ps:List Nat) (j:Nat):Bool×List Tmp:=cond (mustRo L ops ps j) (cond (softOk L ops ps j) (false,zdr L ops ps j) (true,match barT L ops ps j with | some t=>[t] | none=>[])) (false,[])
def roL (L:Lk) (ops:List Oper):List (Bool×List Tmp):=let ps:=zah ops [];(List.range ops.length).map fun j=>zau L ops ps j
section
variable {α : Type}
noncomputable def zcG (L:Lk) (τ:Tm):Operand→Option Value
 | .tmp t=>τ.get? t
 | .const v=>cond (flat3 v) (some v) none
 | .global g=>cond (L.glob g) (some (ptr g 0)) none
 | .func f=>some (.func (.func f) #[] #[])
noncomputable def zcH (L:Lk) (ρ:Operand→Option Value) (o:Oper) (st:SS) (K:Value→SS→Option α):Option α:=
 (zak L ρ o).bind fun p=>K (p.2 st.next) (st.new p.1)
noncomputable def opS (P:Program) (L:Lk) (cf:zaW) (ρ:Operand→Option Value) (o:Oper) (st:SS) (K:Value→SS→Option α):Option α:=
 match o.op with
 | .move x | .assign x=>(ρ x).bind fun v=>K v st
 | .pick c a b=>(ρ c).bind fun c=>(asB c).bind fun b'=>cond b' ((ρ a).bind fun v=>K v st) ((ρ b).bind fun v=>K v st)
 | .nilCheck x=>(ρ x).bind fun v=>(nilC v).bind fun v=>K v st
 | .binOp op t x y _=>(ρ x).bind fun a=>(ρ y).bind fun b=>za0 (shBin L op t) (binS P L x y op t a b) fun v=>K v st
 | .unOp _ t _=>za0 (L.sh t) (zad P L ρ o) fun v=>K v st
 | .convert src dst x=>match L.und src,L.und dst with
   | some (.slice e),some .string=>match L.und e with
     | some (.int .u8)=>(ρ x).bind fun v=>(st.bytes v).bind fun s=>K (.string s) st
     | _=>none
   | some .string,some (.slice _)=>zcH L ρ o st K
   | some (.int _),some (.int k)=>za0 (.int k) (zad P L ρ o) fun v=>K v st
   | _,_=>none
 | .slice t x lo hi none=>match L.und t with
   | some .string=>(ρ x).bind fun v=>(asS v).bind fun s=>(za7 ρ 0 lo).bind fun l=>(za7 ρ (s.size:Int) hi).bind fun h=>(subS s l h).bind fun r=>K (.string r) st
   | some (.slice e)=>(L.size e).bind fun z=>(ρ x).bind fun v=>(za7 ρ 0 lo).bind fun l=>(match hi with
     | none=>sliceLen v
     | some y=>(ρ y).bind asN).bind fun h=>(st.resl v z l h).bind fun r=>K r st
   | some (.array n e)=>(L.size e).bind fun z=>(ρ x).bind fun v=>(addr? v).bind fun p=>(za7 ρ 0 lo).bind fun l=>(za7 ρ (n:Int) hi).bind fun h=>(zg1 p.1 p.2 n z l h).bind fun r=>K r st
   | _=>none
 | .fieldAddr s x f=>(ρ x).bind fun a=>(addr? a).bind fun p=>match L.und s with
   | some (.struct fields)=>(fields[f]?).bind fun fd=>(L.size fd.type).bind fun z=>cond (Nat.beq z 0) none (K (ptr p.1 (p.2+fd.offset)) st)
   | _=>none
 | .indexAddr t x ix=>(ρ x).bind fun a=>(ρ ix).bind fun v=>(asN v).bind fun n=>match L.und t with
   | some (.array len e)=>(L.size e).bind fun z=>(zg0 a len n z).bind fun p=>K (ptr p.1 p.2) st
   | some (.slice e)=>(L.size e).bind fun z=>(zbG a n z).bind fun p=>K (ptr p.1 p.2) st
   | _=>none
 | .field t x f=>(ρ x).bind fun a=>za0 (L.sh o.type) (zfo L t f a) fun v=>K v st
 | .index t x ix=>(ρ x).bind fun a=>(ρ ix).bind fun v=>(asN v).bind fun n=>match L.und t with
   | some .string=>(asS a).bind fun s=>za0 (.int .u8) (idxS s n) fun v=>K v st
   | some (.array len e)=>za0 (L.sh e) (aggI L len e a n) fun v=>K v st
   | _=>none
 | .extract t ix=>(ρ t).bind fun a=>za0 (L.sh o.type) (tupG a ix) fun v=>K v st
 | .load t a=>(ρ a).bind fun a=>(addr? a).bind fun p=>za0 (L.sh t) (st.loadT L t p.1 p.2) fun v=>K v st
 | .store t a x=>(ρ a).bind fun a=>(ρ x).bind fun v=>(addr? a).bind fun p=>(L.size t).bind fun n=>(st.stV p.1 p.2 n v).bind fun st=>K undef st
 | .alloc _ | .box _ _ | .range _ _ | .makeMap _ none=>zcH L ρ o st K
 | .makeSlice t len cap=>(ρ len).bind fun l=>(asN l).bind fun l=>(ρ cap).bind fun c=>(asN c).bind fun c=>match L.und t with
   | some (.slice e)=>(L.info e).bind fun i=>i.zero.bind fun zero=>
     cond (zaf zero&&Nat.beq zero.cells.size i.size&&Nat.blt 0 i.size) ((zg2 l c i.bytes).bind fun _=>K (.slice (some ⟨st.next,0,none⟩) l.toNat c.toNat) (st.new (.cells (zf7 zero.cells.toList c) i.size))) none
   | _=>none
 | .next it true=>(ρ it).bind fun a=>(addr? a).bind fun p=>cond (Nat.beq p.2 0) ((st.iterG p.1).bind fun sp=>cond (Nat.ble st.lim p.1) (cond (decide (sp.2<sp.1.size))
   (K (.tuple #[.bool true,.int .i64 (sp.2:Int),.int .i32 ((Utf8.decode sp.1 sp.2).1:Int)]) (st.set p.1 (some (.iter sp.1 (sp.2+(Utf8.decode sp.1 sp.2).2)))))
   (K (.tuple #[.bool false]) st)) none) none
 | .lookup t x ix ok=>(ρ x).bind fun a=>(ρ ix).bind fun b=>match L.und t with
   | some (.map kt et)=>(match L.und kt with
     | some .string=>(asS b).bind fun k=>(L.info et).bind fun inf=>inf.zero.bind fun zero=>cond (zaf zero) ((st.mapF a k).bind fun r=>
       optE r (K (cond ok (.tuple #[zero,.bool false]) zero) st) (fun v=>K (cond ok (.tuple #[v,.bool true]) v) st)) none
     | _=>none)
   | _=>none
 | .mapUpdate t m k x=>(ρ m).bind fun m=>(ρ k).bind fun k=>(ρ x).bind fun v=>match L.und t with
   | some (.map kt _)=>(match L.und kt with
     | some .string=>(asS k).bind fun k=>(st.mapP m k v).bind fun st=>K undef st
     | _=>none)
   | _=>none
 | .call { callee:=.value f,args,argTypes:=_ }=>(ρ f).bind fun f=>(args.toList.mapM ρ).bind fun vs=>match f with
   | .func (.func f) xs ys=>(cf f (xs.toList++vs++ys.toList) st).bind fun r=>za0 (L.sh o.type) (some r.1) fun v=>K v r.2
   | _=>none
 | .call { callee:=.builtin b,args,argTypes }=>(args.toList.mapM ρ).bind fun vs=>match b,vs,argTypes.toList with
   | .len,[v],[t]=>(match L.und t with
     | some .string=>(asS v).bind fun s=>K (.int .i64 (s.size:Int)) st
     | some (.slice _)=>za0 (.int .i64) (lenV v) fun v=>K v st
     | _=>none)
   | .min,[.int k x,.int k' y],_=>cond (Nat.beq (kn k) (kn k')) (K (.int k (if y<x then y else x)) st) none
   | .max,[.int k x,.int k' y],_=>cond (Nat.beq (kn k) (kn k')) (K (.int k (if y>x then y else x)) st) none
   | .append,[s,x],[t,xt]=>(match L.und t,L.und xt with
     | some (.slice _),some (.int _)=>none
     | some (.slice e),some _=>(L.info e).bind fun i=>i.zero.bind fun zero=>
       cond (Nat.blt 0 i.bytes&&Nat.blt 0 i.size&&Nat.beq zero.cells.size i.size&&zaf zero) ((st.app i.size i.bytes s x).bind fun r=>K r.1 r.2) none
     | _,_=>none)
   | .copy,[d,x],[t,_]=>(match L.und t with
     | some (.slice e)=>(L.size e).bind fun sz=>(st.cpy sz d x).bind fun r=>za0 (.int .i64) (some r.1) fun v=>K v r.2
     | _=>none)
   | .clear,[x],[t]=>(match L.und t with
     | some (.slice e)=>(L.info e).bind fun inf=>inf.zero.bind fun zero=>cond (zaf zero) ((st.clr zero.cells.toList x).bind fun st=>K (.tuple #[]) st) none
     | _=>none)
   | _,_,_=>none
 | .build t parts=>(L.info t).bind fun i=>i.zero.bind fun zero=>cond (zaf zero) (match L.und t with
   | some (.struct fields)=>cond (fields.toList.all fun f=>(L.size f.type).isSome&&Nat.ble (f.offset+(L.size f.type).getD 0) zero.cells.size) (zcE ρ (zd1 L fields) parts.toList zero.cells.toList fun l=>K (.agg ⟨l⟩) st) none
   | some (.array n e)=>(L.size e).bind fun z=>zcE ρ (fun i=>cond (Nat.ble (i*z+z) zero.cells.size) (some (i*z,z)) none) parts.toList zero.cells.toList fun l=>K (.agg ⟨l⟩) st
   | _=>none) none
 | .buildSlice t len parts=>(match L.und t with
   | some (.slice e)=>(L.info e).bind fun i=>i.zero.bind fun zero=>
     cond (zaf zero&&Nat.ble (len*i.size) (2^24)&&Nat.beq zero.cells.size i.size&&Nat.blt 0 i.size&&Nat.beq parts.size len)
      (zdR ρ i.size parts.toList 0 fun l=>K (.slice (some ⟨st.next,0,none⟩) len len) (st.new (.cells l i.size))) none
   | _=>none)
 | .makeInterface _ _ | .makeFunc _ _ _=>(zad P L ρ o).bind fun v=>K v st
 | _=>none
def zg3 (v w:Value):Bool:=match v,w with
 | .pointer (some ⟨i,_,none⟩),.pointer (some ⟨j,_,none⟩)=>!Nat.beq i j
 | .slice (some ⟨i,_,none⟩) _ _,.pointer (some ⟨j,_,none⟩)=>!Nat.beq i j
 | .slice none _ _,.pointer (some ⟨_,_,none⟩)=>true
 | _,_=>false
def zds (ops:List Oper) (n:Nat):Bool:=ops.all fun o=>match o.dst with | some d=>Nat.blt d n | none=>true
noncomputable def barS (L:Lk) (st:SS) (v:Value):Option (Nat×List Value):=(addr? v).bind fun p=>match st.mem.get p.1 with
 | some (.cells c 0)=>cond (Nat.blt p.1 st.next&&!L.glob p.1) (some (p.1,c)) none
 | _=>none
noncomputable def SS.frz (st:SS) (b:Nat×List Value):SS:=⟨st.mem.upd b.1 (some (.table b.2)),st.next,st.lim⟩
noncomputable def SS.unfrz (st:SS) (b:Nat×List Value):SS:=⟨st.mem.upd b.1 (some (.cells b.2 0)),st.next,st.lim⟩
noncomputable def zdS (L:Lk) (τ:Tm) (o:Oper):List Tmp→Option α→Option α
 | [],K=>K
 | t::r,K=>match o.op with
   | .store _ a _=>(τ.get? t).bind fun v=>(zcG L τ a).bind fun w=>cond (zg3 v w) (zdS L τ o r K) none
   | _=>none
noncomputable def zaN (P:Program) (L:Lk) (cf:zaW) (all:List Oper):List (Oper×Bool×List Tmp)→Tm→SS→(Tm→SS→Option α)→Option α
 | [],τ,st,K=>K τ st
 | x::r,τ,st,K=>
   let run:Tm→Option α:=fun τ=>cond x.2.1
    (match x.2.2 with
    | []=>opS P L cf (zcG L τ) x.1 (st.ro st.next) fun v st'=>zaN P L cf all r (τ.put x.1.dst v) (st'.ro st.lim) K
    | t::_=>cond (zds all τ.n) ((τ.get? t).bind fun v=>(barS L st v).bind fun b=>opS P L cf (zcG L τ) x.1 (st.frz b) fun v st'=>zaN P L cf all r (τ.put x.1.dst v) (st'.unfrz b) K) none)
    (zdS L τ x.1 x.2.2 (opS P L cf (zcG L τ) x.1 st fun v st=>zaN P L cf all r (τ.put x.1.dst v) st K))
   match x.1.guard with
   | none=>run τ
   | some (j,want)=>match ((all[j]?).bind (·.dst)) with
     | some d=>(τ.get? d).bind fun v=>match v with
       | .bool b=>cond b
         (cond want (run (τ.put (some d) (.bool true))) (zaN P L cf all r ((τ.put (some d) (.bool true)).put x.1.dst undef) st K))
         (cond want (zaN P L cf all r ((τ.put (some d) (.bool false)).put x.1.dst undef) st K) (run (τ.put (some d) (.bool false))))
       | _=>zaN P L cf all r (τ.put x.1.dst undef) st K
     | none=>none
noncomputable def cutS (lf:zaJ) (oI:Option LoopI) (key:Nat) (τ:Tm) (st:SS) (K:Ex→Tm→SS→Option α) (d:Option α):Option α:=match oI with
 | none=>d
 | some I=>(zb8 τ I.ins).bind fun vs=>(lf key vs st).bind fun r=>zc4 r.1 (fun e ts=>zc3 r.2.1 ts 0 ⟨.nil,τ.n⟩ fun τ'=>K e τ' r.2.2) I.exits 0
noncomputable def evS (P:Program) (L:Lk) (cf:zaW) (lf:zaJ) (li:Nat→Option LoopI):Code→Tm→SS→(Ex→Tm→SS→Option α)→Option α
 | .skip,τ,st,K=>K .normal τ st
 | .label _,τ,st,K=>K .normal τ st
 | .region _ ops false,τ,st,K=>zaN P L cf ops.toList (ops.toList.map fun o=>(o,false,[])) τ st (K .normal)
 | .region _ ops true,τ,st,K=>cond (ze0 ops) (zaN P L cf ops.toList (ops.toList.zip (roL L ops.toList)) τ st (K .normal)) none
 | .seq a b,τ,st,K=>evS P L cf lf li a τ st fun e τ st=>match e with
   | .normal=>cutS lf (li (zbU b)) (zbU b) τ st K (evS P L cf lf li b τ st K)
   | .exit i=>K (.exit i) τ st
   | .ret=>K .ret τ st
 | .cond c a b,τ,st,K=>(zcG L τ c).bind fun v=>(asB v).bind fun b'=>cond b' (evS P L cf lf li a τ st K) (evS P L cf lf li b τ st K)
 | .block id body,τ,st,K=>evS P L cf lf li body τ st fun e τ st=>match e with
   | .exit i=>cond (Nat.beq i id) (K .normal τ st) (K (.exit i) τ st)
   | .normal=>K .normal τ st
   | .ret=>K .ret τ st
 | .loop body,τ,st,K=>cond (Nat.blt (zaA body) 1000000) ((li (zaA body)).bind fun I=>(zb8 τ I.ins).bind fun vs=>(lf (zaA body) vs st).bind fun r=>
   zc4 r.1 (fun e ts=>zc3 r.2.1 ts 0 ⟨.nil,τ.n⟩ fun τ'=>K e τ' r.2.2) I.exits 0) none
 | .exit id,τ,st,K=>K (.exit id) τ st
 | .ret,τ,st,K=>K .ret τ st
 | _,_,_,_=>none
noncomputable def zew (L:Lk) (τ:Tm) (st:SS):List ResultVar→(List Value→Option α)→Option α
 | [],K=>K []
 | .tmp t::r,K=>(τ.get? t).bind fun v=>zew L τ st r fun vs=>K (v::vs)
 | .cell a t::r,K=>(τ.get? a).bind fun p=>(addr? p).bind fun p=>(st.readT L t p.1 p.2).bind fun v=>zew L τ st r fun vs=>K (v::vs)
noncomputable def bodyS (P:Program) (L:Lk) (cf:zaW) (lf:zaJ) (li:Nat→Option LoopI) (fn:Func) (pur:Bool) (args:List Value) (st:SS):Option (Value×SS):=
 fn.body.bind fun c=>cond (Nat.ble args.length fn.ntmps) (cond pur
  (evS P L cf lf li c ⟨zbz args 0 .nil,fn.ntmps⟩ (st.ro st.next) fun e τ st1=>match e with
   | .exit _=>none
   | _=>zew L τ st1 fn.results.toList fun vs=>cond (flat3 (zas vs)) (some (zas vs,st.adv st1.next)) none)
  (evS P L cf lf li c ⟨zbz args 0 .nil,fn.ntmps⟩ st fun e τ st=>match e with
   | .exit _=>none
   | _=>zew L τ st fn.results.toList fun vs=>some (zas vs,st))) none
noncomputable def loopS (P:Program) (L:Lk) (cf:zaW) (lf:zaJ) (li:Nat→Option LoopI) (body:Code) (I:LoopI) (n:Nat) (vs:List Value) (st:SS):Option (Nat×List Value×SS):=
 evS P L cf lf li body ⟨za8 I.ins vs .nil,n⟩ st fun e τ st=>match e with
  | .normal=>(zb8 τ I.ins).bind fun vs=>lf (zaA body) vs st
  | .exit i=>(zcF (.exit i) I.exits 0).bind fun x=>(zb8 τ x.2).bind fun vs=>some (x.1,vs,st)
  | .ret=>(zcF .ret I.exits 0).bind fun x=>(zb8 τ x.2).bind fun vs=>some (x.1,vs,st)
end
section
variable {P : Program} {L : Lk} {α : Type}
def TLe (τ τ':Tm):Prop:=τ'.n=τ.n∧∀ i v,τ.t.get i=some v→τ'.t.get i=some v
theorem TLe.refl (τ:Tm):TLe τ τ:=⟨rfl,fun _ _ h=>h⟩
theorem TLe.put {τ τ':Tm} (h:TLe τ τ') (d:Option Tmp) (v:Value):TLe (τ.put d v) (τ'.put d v):=by
 cases d with
 | none=>exact h
 | some d=>
   unfold Tm.put
   simp only [h.1]
   cases hb:Nat.blt d τ.n with
   | false=>simpa using h
   | true=>
     simp only [zct]
     refine ⟨rfl,fun i u hu=>?_⟩
     simp only [PT.get_upd] at hu ⊢
     split
     ·rename_i e;rw [if_pos e] at hu;exact hu
     ·rename_i e;rw [if_neg e] at hu;exact h.2 i u hu
def zaG (lim base:Nat) (log log':List Nat):Prop:=∀ i∈log',i∈log∨(lim≤i∧i<base)
theorem zaG.refl (lim base:Nat) (log:List Nat):zaG lim base log log:=fun _ h=>.inl h
theorem zaG.trans {lim base:Nat} {a b c:List Nat} (h:zaG lim base a b) (k:zaG lim base b c):zaG lim base a c:=fun i hi=>by
 rcases k i hi with h1 | h1
 ·exact h i h1
 ·exact .inr h1
abbrev SS.toE (st:SS) (base:Nat) (log:List Nat):St:=⟨st.mem,st.next,base,log⟩
theorem zd3 {st:SS} {base:Nat} {log:List Nat} {i:Nat} (h:st.lim≤i):zaG st.lim base log ((st.toE base log).note i):=by
 intro j hj
 unfold St.note at hj
 cases hb:Nat.blt i base with
 | false=>simp only [SS.toE] at hj;rw [hb] at hj;exact .inl hj
 | true=>
   simp only [SS.toE] at hj
   rw [hb] at hj
   simp only [zct] at hj
   cases hc:log.contains i with
   | true=>rw [hc] at hj;exact .inl hj
   | false=>
     rw [hc] at hj
     simp only [zcf,List.mem_cons] at hj
     rcases hj with rfl | hj
     ·exact .inr ⟨h,by rwa [Nat.blt_eq] at hb⟩
     ·exact .inl hj
theorem zbe {k:IntKind} {v:Value} {n:Int} (h:asI k v=some n):v=.int k n:=by
 unfold asI at h
 split at h
 ·rename_i k' m
  cases hb:Nat.beq (kn k) (kn k') with
  | false=>rw [hb] at h;cases h
  | true=>rw [hb] at h;cases h;rw [zeR hb]
 ·cases h
theorem zbM {v:Value} {b:Bool} (h:asB v=some b):v=.bool b:=by
 unfold asB at h;split at h<;>cases h;rfl
theorem zaO {v:Value} {s:ByteArray} (h:asS v=some s):v=.string s:=by
 unfold asS at h;split at h<;>cases h;rfl
theorem zbf {v:Value} {n:Int} (h:asN v=some n):∃ k,v=.int k n:=by
 unfold asN at h;split at h<;>cases h;exact ⟨_,rfl⟩
theorem zaB {s:Sh} {ov:Option Value} {K:Value→Option α} {r:α} (h:za0 s ov K=some r):∃ v,ov=some v∧K v=some r:=by
 unfold za0 at h
 cases s<;>simp only [zbi] at h
 ·obtain ⟨n,⟨v,hv,hn⟩,h⟩:=h;rw [← zbe hn] at h;exact ⟨v,hv,h⟩
 ·obtain ⟨n,⟨v,hv,hn⟩,h⟩:=h;rw [← zbM hn] at h;exact ⟨v,hv,h⟩
 ·obtain ⟨n,⟨v,hv,hn⟩,h⟩:=h;rw [← zaO hn] at h;exact ⟨v,hv,h⟩
 ·exact h
theorem zis {cf:CallF} {ρ:Operand→Option Value} {o:Oper} {st:St} {v:Value} (h:zad P L ρ o=some v):opE P L cf ρ o st=some (v,.blind,st):=zbL h
theorem zh5 {cf:CallF} {ρ:Operand→Option Value} {o:Oper} {st:St} {ob:AObj} {vf:Nat→Value} (h0:zad P L ρ o=none) (h:zak L ρ o=some (ob,vf)):
  opE P L cf ρ o st=some (vf st.next,.blind,st.new ob):=by unfold opE;rw [h0,h]
theorem zit {cf:CallF} {ρ:Operand→Option Value} {o:Oper} {st:St} {i:Nat} {g:AObj→Option Value} {ob:AObj} {v:Value} (h0:zad P L ρ o=none) (h1:zak L ρ o=none) (h:zav L ρ o=some (i,g))
  (hm:st.mem.get i=some ob) (hg:g ob=some v):opE P L cf ρ o st=some (v,.read i,st):=by unfold opE;rw [h0,h1,h];simp [hm,hg]
theorem op_gen {cf:CallF} {ρ:Operand→Option Value} {o:Oper} {st st':St} {v:Value} (h0:zad P L ρ o=none) (h1:zak L ρ o=none) (h2:zav L ρ o=none) (h:zay L cf ρ o st=some (v,st')):
  opE P L cf ρ o st=some (v,.gen,st'):=by unfold opE;rw [h0,h1,h2,h];rfl
def OpR (P:Program) (L:Lk) (o:Oper) (ρ:Operand→Option Value) (st:SS) (v:Value) (st':SS):Prop:=
 st'.lim=st.lim∧∃ n,∀ m,n≤m→∀ base log ρ',(∀ x v,ρ x=some v→ρ' x=some v)→
  ∃ kd log',opE P L (zam L (zai P L m)) ρ' o (st.toE base log)=some (v,kd,st'.toE base log')∧zaG st.lim base log log'∧(blindOp L o.op=true→kd=.blind)∧(genOp o.op=false→log'=log)
theorem OpR.pure {o:Oper} {ρ:Operand→Option Value} {st:SS} {v:Value} (h:∀ ρ',(∀ x v,ρ x=some v→ρ' x=some v)→zad P L ρ' o=some v):OpR P L o ρ st v st:=
 ⟨rfl,0,fun m _ base log ρ' hρ=>⟨_,log,zis (h ρ' hρ),.refl _ _ _,fun _=>rfl,fun _=>rfl⟩⟩
theorem OpR.alloc {o:Oper} {ρ:Operand→Option Value} {st:SS} {ob:AObj} {v:Value} (h:∀ ρ',(∀ x v,ρ x=some v→ρ' x=some v)→zad P L ρ' o=none∧∃ vf,zak L ρ' o=some (ob,vf)∧vf st.next=v):OpR P L o ρ st v (st.new ob):=
 ⟨rfl,0,fun m _ base log ρ' hρ=>by
  obtain ⟨h0,vf,h1,rfl⟩:=h ρ' hρ
  exact ⟨_,log,zh5 h0 h1,.refl _ _ _,fun _=>rfl,fun _=>rfl⟩⟩
theorem OpR.read {o:Oper} {ρ:Operand→Option Value} {st:SS} {v:Value} (hb:blindOp L o.op=false) (h:∀ ρ',(∀ x v,ρ x=some v→ρ' x=some v)→zad P L ρ' o=none∧zak L ρ' o=none∧
  ∃ i g ob,zav L ρ' o=some (i,g)∧st.mem.get i=some ob∧g ob=some v):OpR P L o ρ st v st:=
 ⟨rfl,0,fun m _ base log ρ' hρ=>by
  obtain ⟨h0,h1,i,g,ob,h2,h3,h4⟩:=h ρ' hρ
  exact ⟨_,log,zit h0 h1 h2 h3 h4,.refl _ _ _,fun hc=>(by rw [hb] at hc;cases hc),fun _=>rfl⟩⟩
theorem OpR.gen {o:Oper} {ρ:Operand→Option Value} {st st':SS} {v:Value} (hb:blindOp L o.op=false) (hg:genOp o.op=true) (hl:st'.lim=st.lim)
  (h:∃ n,∀ m,n≤m→∀ base log ρ',(∀ x v,ρ x=some v→ρ' x=some v)→zad P L ρ' o=none∧zak L ρ' o=none∧zav L ρ' o=none∧
   ∃ log',zay L (zam L (zai P L m)) ρ' o (st.toE base log)=some (v,st'.toE base log')∧zaG st.lim base log log'):OpR P L o ρ st v st':=by
 obtain ⟨n,h⟩:=h
 refine ⟨hl,n,fun m hm base log ρ' hρ=>?_⟩
 obtain ⟨h0,h1,h2,log',h3,h4⟩:=h m hm base log ρ' hρ
 exact ⟨_,log',op_gen h0 h1 h2 h3,h4,fun hc=>(by rw [hb] at hc;cases hc),fun hc=>(by rw [hg] at hc;cases hc)⟩
def zd4 (P:Program) (L:Lk) (f:FuncId) (args:List Value) (st:SS) (v:Value) (st':SS):Prop:=
 st'.lim=st.lim∧∃ n,∀ m,n≤m→∀ base log,∃ log',zam L (zai P L m) f args (st.toE base log)=some (v,st'.toE base log')∧zaG st.lim base log log'
open Classical in
noncomputable def cS (P:Program) (L:Lk):zaW:=fun f args st=>if h:∃ r:Value×SS,zd4 P L f args st r.1 r.2 then some (Classical.choose h) else none
theorem zf9 {f:FuncId} {args:List Value} {st:SS} {r r':Value×SS} (h:zd4 P L f args st r.1 r.2) (k:zd4 P L f args st r'.1 r'.2):r=r':=by
 obtain ⟨h1,n,h2⟩:=h
 obtain ⟨k1,n',k2⟩:=k
 obtain ⟨l,h3,_⟩:=h2 (max n n') (Nat.le_max_left _ _) 0 []
 obtain ⟨l',k3,_⟩:=k2 (max n n') (Nat.le_max_right _ _) 0 []
 rw [h3] at k3
 simp only [SS.toE,zsj,zpj,St.mk.injEq] at k3
 obtain ⟨e1,e2,e3,_⟩:=k3
 obtain ⟨v,⟨m,nx,lm⟩⟩:=r
 obtain ⟨v',⟨m',nx',lm'⟩⟩:=r'
 simp only at h1 k1 e1 e2 e3
 simp only [zpj,SS.mk.injEq]
 exact ⟨e1,e2,e3,h1.trans k1.symm⟩
theorem ze2 {f:FuncId} {args:List Value} {st:SS} {r:Value×SS}:cS P L f args st=some r↔zd4 P L f args st r.1 r.2:=by
 unfold cS
 constructor
 ·intro h
  split at h
  ·rename_i hx;cases h;exact Classical.choose_spec hx
  ·cases h
 ·intro h
  rw [dif_pos ⟨r,h⟩]
  exact congrArg some (zf9 (Classical.choose_spec (⟨r,h⟩:∃ r:Value×SS,zd4 P L f args st r.1 r.2)) h)
theorem mapM_mono {ρ ρ':Operand→Option Value} (h:∀ x v,ρ x=some v→ρ' x=some v):∀ (xs:List Operand) (vs:List Value),xs.mapM ρ=some vs→xs.mapM ρ'=some vs
 | [],vs,e=>by simpa using e
 | x::xs,vs,e=>by
   simp only [List.mapM_cons,Option.bind_eq_bind,Option.pure_def,zbi] at e ⊢
   obtain ⟨v,hv,r,hr,e⟩:=e
   exact ⟨v,h x v hv,r,mapM_mono h xs r hr,e⟩
theorem zcn {ρ ρ':Operand→Option Value} (h:∀ x v,ρ x=some v→ρ' x=some v):∀ (xs:List (Nat×Operand)) (vs:List (Nat×Value)),
  (xs.mapM fun p=>(ρ p.2).map fun v=>(p.1,v))=some vs→(xs.mapM fun p=>(ρ' p.2).map fun v=>(p.1,v))=some vs
 | [],vs,e=>by simpa using e
 | x::xs,vs,e=>by
   simp only [List.mapM_cons,Option.bind_eq_bind,Option.pure_def,zbi,zmi] at e ⊢
   obtain ⟨v,⟨u,hu,rfl⟩,r,hr,e⟩:=e
   exact ⟨_,⟨u,h _ u hu,rfl⟩,r,zcn h xs r hr,e⟩
theorem beq_true {a b:Nat} (h:Nat.beq a b=true):a=b:=by rw [zac] at h;exact of_decide_eq_true h
theorem zcO {n cap:Nat} {lo hi:Option Value} {l h:Int} (hl:match lo with | none=>l=0 | some v=>∃ k,v=.int k l) (hh:match hi with | none=>h=n | some v=>∃ k,v=.int k h)
  (h0:0≤l) (h1:l≤h) (h2:h≤cap):zaQ n cap lo hi=some (l.toNat,h.toNat):=by
 have key:(Nat.ble h.toNat cap&&Nat.ble l.toNat h.toNat)=true:=by
  simp only [zae,Nat.ble_eq];omega
 have e1:∀ v,(∃ k,v=Value.int k h)→asNat? v=some h.toNat:=fun v ⟨k,e⟩=>by subst e;simp only [asNat?];rw [if_pos (by omega)]
 have e2:∀ v,(∃ k,v=Value.int k l)→asNat? v=some l.toNat:=fun v ⟨k,e⟩=>by subst e;simp only [asNat?];rw [if_pos (by omega)]
 unfold zaQ
 cases hi with
 | none=>
   simp only at hh
   have e3:h.toNat=n:=by omega
   cases lo with
   | none=>
     simp only at hl
     have e4:l.toNat=0:=by omega
     rw [e3,e4] at key
     simp only [zob,key,zct,e3,e4]
   | some v=>
     rw [e3] at key
     simp only [zob,e2 v hl,key,zct,e3]
 | some u=>
   cases lo with
   | none=>
     simp only at hl
     have e4:l.toNat=0:=by omega
     rw [e4] at key
     simp only [zob,e1 u hh,key,zct,e4]
   | some v=>simp only [zob,e1 u hh,e2 v hl,key,zct]
theorem zbu {ρ ρ':Operand→Option Value} (hρ:∀ x v,ρ x=some v→ρ' x=some v) {d n:Int} {x:Option Operand} (h:za7 ρ d x=some n):
  ∃ r,(match x with | some v=>(ρ' v).map some | none=>some none)=some r∧(match r with | none=>n=d | some v=>∃ k,v=.int k n):=by
 cases x with
 | none=>simp only [za7,zsj] at h;exact ⟨none,rfl,h.symm⟩
 | some x=>
   simp only [za7,zbi] at h
   obtain ⟨v,hv,h⟩:=h
   exact ⟨some v,by simp [hρ x v hv],zbf h⟩
end
section
variable {P : Program} {L : Lk} {α : Type}
theorem zat (a:α):zaa P (pure a:Sem α)=some a:=rfl
theorem zdu:zaa P (program:Sem Program)=some P:=rfl
theorem ziu {t:TypeId} {i:TypeInfo} (h:P.info? t=some i):zaa P (typeInfo t)=some i:=by
 unfold typeInfo
 rw [zab,zdu]
 simp [h];rfl
theorem zfq {t:TypeId} {i:TypeInfo} (h:P.info? t=some i):zaa P (sizeOf t)=some i.size:=by
 unfold sizeOf
 rw [zab,ziu h]
 rfl
theorem zex {t:TypeId} {d:TypeDesc} (h:P.underlying t=some d):zaa P (isAgg t)=some (zcR d):=by
 unfold isAgg
 rw [zab,zan h]
 cases d<;>rfl
theorem zd5 [Sym] (hL:L.Ok P) {t:TypeId} {cs:Array Value} {off:Nat} {v:Value} (h:zbE L t cs off=some v):zaa P (part t cs off)=some v:=by
 unfold zbE at h
 split at h
 ·rename_i f hu
  simp only [zmi] at h
  obtain ⟨n,hn,rfl⟩:=h
  obtain ⟨i,hi,rfl⟩:=zaw hn
  unfold part
  simp [-bind_pure_comp,zab,zex (hL.und _ _ hu),zfq (hL.info _ _ hi),zcR,zat]
 ·rename_i n e hu
  simp only [zmi] at h
  obtain ⟨n,hn,rfl⟩:=h
  obtain ⟨i,hi,rfl⟩:=zaw hn
  unfold part
  simp [-bind_pure_comp,zab,zex (hL.und _ _ hu),zfq (hL.info _ _ hi),zcR,zat]
 ·rename_i d h1 h2 hu
  unfold part
  simp [zab,zex (hL.und _ _ hu),zff h1 h2,h,zat]
 ·cases h
theorem zdv (a b:ByteArray):(a==b)=eqT a b:=by
 rw [beq_toListBytes,ByteArray.toList_eq,ByteArray.toList_eq,Bool.eq_iff_iff]
 simp [eqT]
theorem zfG [Sym] (hL:L.Ok P) {d D:Nat} (ih:∀ t a b r,eqD P L d t a b=some r→zaa P (Op.equalIn D t a b)=some r) {xs ys:Array Value}:∀ (fs:List Field) (r:Bool),(fs.all fun f=>f.name != "_")=true→
  eqFs (eqD P L d) L xs ys fs=some r→zaa P (Op.eqFields D xs ys fs)=some r
 | [],r,_,h=>by simp only [eqFs,zsj] at h;subst h;rfl
 | f::fs,r,hn,h=>by
   simp only [List.all_cons,zae,bne_iff_ne,ne_eq] at hn
   simp only [eqFs,zbi,zsj] at h
   obtain ⟨p,hp,q,hq,r1,hr1,s,hs,rfl⟩:=h
   have ih2:=zfG hL ih fs s (by simpa using hn.2) hs
   unfold Op.eqFields
   rw [if_pos hn.1]
   simp only [zab,zd5 hL hp,zd5 hL hq,ih _ _ _ _ hr1,zob]
   cases r1 with
   | false=>simp [zat]
   | true=>simpa using ih2
theorem zhB {D:Nat} {t:TypeId} {xs ys:Array Value} {fs:Array Field} (ht:P.underlying t=some (.struct fs)) (hp:P.stoodInHeld t=false):
  zaa P (Op.equalIn (D+1) t (.agg xs) (.agg ys))=zaa P (Op.eqFields D xs ys fs.toList):=by
 simp only [Op.equalIn,zab,zan ht,zdu,zob,hp,Bool.false_eq_true,if_false]
 rw [← Array.forIn_toList]
 generalize fs.toList=l
 clear ht
 induction l with
 | nil=>rfl
 | cons f l ih=>
   simp only [List.forIn_cons,Op.eqFields,zab]
   by_cases hn:f.name= "_"
   ·simp only [hn,ne_eq,not_true_eq_false,if_false,zat,zob]
    exact ih
   ·simp only [ne_eq,hn,not_false_eq_true,if_true,zab]
    cases h1:zaa P (part f.type xs f.offset) with
    | none=>simp
    | some a=>
      cases h2:zaa P (part f.type ys f.offset) with
      | none=>simp
      | some b=>
        cases h3:zaa P (Op.equalIn D f.type a b) with
        | none=>simp [h3]
        | some r=>
          cases r with
          | false=>simp [h3,zat]
          | true=>
            simp only [h3,zob,znt,Bool.false_eq_true,if_false,zat]
            exact ih
theorem zh6 [Sym] (hL:L.Ok P) {d D e z:Nat} {ti:TypeInfo} (hz:P.info? e=some ti) (hzz:ti.size=z) (ih:∀ t a b r,eqD P L d t a b=some r→zaa P (Op.equalIn D t a b)=some r) {xs ys:Array Value} {t n:Nat} (ht:P.underlying t=some (.array n e)) {r:Bool}
  (h:eqEs (eqD P L d e) L e z xs ys n 0=some r):zaa P (Op.equalIn (D+1) t (.agg xs) (.agg ys))=some r:=by
 simp only [Op.equalIn,zab,zan ht,zfq hz,zob,hzz]
 rw [Std.Legacy.Range.forIn_eq_forIn_range']
 simp only [Std.Legacy.Range.size,Nat.sub_zero,Nat.add_sub_cancel,Nat.div_one]
 clear ht
 generalize 0=i at h ⊢
 induction n generalizing i r with
 | zero=>simp only [eqEs,zsj] at h;subst h;rfl
 | succ n ihn=>
   simp only [eqEs,zbi,zsj] at h
   obtain ⟨p,hp,q,hq,r1,hr1,s,hs,rfl⟩:=h
   have:=ihn (i:=i+1) hs
   simp only [List.range'_succ,List.forIn_cons,zab,zd5 hL hp,zd5 hL hq,ih _ _ _ _ hr1,zob]
   cases r1 with
   | false=>simp [zat]
   | true=>
     simp only [znt,Bool.false_eq_true,if_false,zat,zob,Bool.true_and]
     exact this
theorem zhC [Sym] (hL:L.Ok P):∀ (d D:Nat) (t:TypeId) (a b:Value) (r:Bool),d≤D→eqD P L d t a b=some r→zaa P (Op.equalIn D t a b)=some r
 | 0,D,t,a,b,r,_,h=>by simp [eqD] at h
 | d+1,D,t,a,b,r,hle,h=>by
   obtain ⟨D,rfl⟩:∃ E,D=E+1:=⟨D-1,by omega⟩
   have ih:=fun t a b r h=>zhC hL d D t a b r (by omega) h
   unfold eqD at h
   split at h
   ·rename_i k hu
    simp only [zbi,zsj] at h
    obtain ⟨x,hx,y,hy,rfl⟩:=h
    rw [zbe hx,zbe hy]
    simp only [Op.equalIn,zab,zan (hL.und _ _ hu),zob,if_true,zat]
    congr 1
   ·rename_i hu
    simp only [zbi,zsj] at h
    obtain ⟨x,hx,y,hy,rfl⟩:=h
    rw [zbM hx,zbM hy]
    simp only [Op.equalIn,zab,zan (hL.und _ _ hu),zob,zat]
   ·rename_i hu
    simp only [zbi,zsj] at h
    obtain ⟨x,hx,y,hy,rfl⟩:=h
    rw [zaO hx,zaO hy]
    simp only [Op.equalIn,zab,zan (hL.und _ _ hu),zob,zat,zdv]
   ·rename_i fs hu
    split at h
    ·rename_i xs ys
     cases hc:((fs.toList.all fun f=>f.name != "_")&&!P.stoodInHeld t) with
     | false=>rw [hc] at h;cases h
     | true=>
       rw [hc] at h
       simp only [zct] at h
       simp only [zae,Bool.not_eq_true'] at hc
       rw [zhB (hL.und _ _ hu) hc.2]
       exact zfG hL ih _ _ hc.1 h
    ·cases h
   ·rename_i n e hu
    split at h
    ·rename_i xs ys
     simp only [zbi] at h
     obtain ⟨z,hz,h⟩:=h
     obtain ⟨ti,hti,hzz⟩:=zaw hz
     exact zh6 hL (hL.info _ _ hti) hzz ih (hL.und _ _ hu) h
    ·cases h
   ·cases h
theorem zhD [Sym] (hL:L.Ok P) {t:TypeId} {a b:Value} {r:Bool} {x y:Operand} {op:BinOp} (h:eqA P L t a b=some r):
  zaf a=true∧zaf b=true∧zaa P (eqGuard op t x y a b)=some ()∧zaa P (Op.equal t a b)=some r∧∃ xs ys,a=.agg xs∧b=.agg ys:=by
 unfold eqA at h
 split at h
 ·rename_i xs ys
  cases hc:(zaf (.agg xs)&&zaf (.agg ys)&&!(P.eqGuardType P.depth t)) with
  | false=>rw [hc] at h;cases h
  | true=>
    rw [hc] at h
    simp only [zct] at h
    simp only [zae,Bool.not_eq_true'] at hc
    refine ⟨hc.1.1,hc.1.2,?_,zhC hL 20 Op.maxDepth t _ _ _ (by decide) h,xs,ys,rfl,rfl⟩
    unfold eqGuard
    cases op<;>simp [zab,zdu,hc.2,zat]<;>rfl
 ·cases h
end
section
variable {P : Program} {L : Lk} {α : Type} {ρ : Operand → Option Value} {o : Oper} {st : SS}
structure LkS (L:Lk):Prop where
 symOp:∀ op t a b,L.symOp op t a b=none
theorem pv_of {s:Sem Value} {v:Value} (h:zaa P s=some v) (hf:flat3 v=true):pureV P s=some v:=by
 unfold pureV;rw [h];simp [hf]
theorem ze3 {op:BinOp} {k:IntKind} {a b:Int} {v:Value} (t:TypeId) (h:aI op k a b=some v):(∀ k',(op=.shl∨op=.shr∨k'=k)→zaa P (binOp op t (.int k a) (.int k' b))=some v)∧flat3 v=true:=by
 cases op<;>simp only [aI] at h
 case shl=>
  cases hb:decide (b<0) with
  | true=>rw [hb] at h;cases h
  | false=>
    rw [hb] at h;cases h
    have hn:¬ b<0:=of_decide_eq_false hb
    exact ⟨fun k' _=>by simp [binOp,Op.shift,hn,shlI,zat],rfl⟩
 case shr=>
  cases hb:decide (b<0) with
  | true=>rw [hb] at h;cases h
  | false=>
    rw [hb] at h;cases h
    have hn:¬ b<0:=of_decide_eq_false hb
    exact ⟨fun k' _=>by simp [binOp,Op.shift,hn,zdQ,zat],rfl⟩
 case quo=>
  cases hb:decide (b=0) with
  | true=>rw [hb] at h;cases h
  | false=>
    rw [hb] at h;cases h
    have hn:¬ b=0:=of_decide_eq_false hb
    exact ⟨fun k' hk=>by simp at hk;subst hk;simp [binOp,Op.intDiv,hn,zat],rfl⟩
 case rem=>
  cases hb:decide (b=0) with
  | true=>rw [hb] at h;cases h
  | false=>
    rw [hb] at h;cases h
    have hn:¬ b=0:=of_decide_eq_false hb
    exact ⟨fun k' hk=>by simp at hk;subst hk;simp [binOp,Op.intDiv,hn,zat],rfl⟩
 all_goals
  cases h
  refine ⟨fun k' hk=>?_,rfl⟩
  simp at hk;subst hk
  first
   | (simp [binOp,Op.intArith,zat];done)
   | (simp [binOp,Op.intBits,zat,zeu,orI,xorI,zgG];done)
   | (simp [binOp,Op.intCmp,zat];done)
   | skip
 ·simp [binOp,Op.intCmp,zat];rw [Bool.eq_iff_iff];simp
 ·simp [binOp,Op.intCmp,zat];rw [Bool.eq_iff_iff];simp
theorem zfH (op:BinOp) (t:TypeId) (x y:Operand) (a b:ByteArray):zaa P (eqGuard op t x y (.string a) (.string b))=some ():=by cases op<;>rfl
theorem zg4 (op:BinOp) (t:TypeId) (x y:Operand) (a b:Bool):zaa P (eqGuard op t x y (.bool a) (.bool b))=some ():=by cases op<;>rfl
theorem zhE (op:BinOp) (t:TypeId) (x y:Operand):zaa P (eqGuard op t x y (.pointer none) (.pointer none))=some ():=by cases op<;>rfl
theorem zh7 (op:BinOp) (t:TypeId) (x y:Operand):zaa P (eqGuard op t x y (.slice none 0 0) (.slice none 0 0))=some ():=by cases op<;>rfl
theorem zh8 (op:BinOp) (t:TypeId) (x y:Operand) (h:(∃ c,x=.const c)∨∃ c,y=.const c):zaa P (eqGuard op t x y .nilIface .nilIface)=some ():=by
 rcases h with ⟨c,rfl⟩ | ⟨c,rfl⟩
 ·cases op<;>rfl
 ·cases op<;>cases x<;>rfl
theorem zaP {op:BinOp} {t yt:TypeId} {x y:Operand} {a b v:Value} (ho:o.op=.binOp op t x y yt) (ha:ρ x=some a) (hb:ρ y=some b) (fa:zaf a=true) (fb:zaf b=true)
  (hg:zaa P (eqGuard op t x y a b)=some ()) (hr:zaa P (binOp op t a b)=some v) (hv:flat3 v=true):OpR P L o ρ st v st:=by
 refine .pure fun ρ' hρ=>?_
 unfold zad
 simp only [ho,hρ x a ha,hρ y b hb,zob,fa,fb,Bool.and_self,zct]
 exact pv_of (by rw [zab,hg];exact hr) hv
theorem zfr (hS:LkS L) {op:BinOp} {t yt:TypeId} {x y:Operand} {a b:Value} {d:TypeDesc} {r:Bool} (ho:o.op=.binOp op t x y yt) (ha:ρ x=some a) (hb:ρ y=some b) (hf:(zaf a&&zaf b)=false)
  (hu:L.und t=some d) (he:eqNil d a b=some r) (v:Value) (hv:(op=.eql∧v=.bool r)∨(op=.neq∧v=.bool !r)):OpR P L o ρ st v st:=by
 refine .pure fun ρ' hρ=>?_
 unfold zad
 simp only [ho,hρ x a ha,hρ y b hb,zob,hf,zcf,hS.symOp,hu,he]
 rcases hv with ⟨rfl,rfl⟩ | ⟨rfl,rfl⟩<;>rfl
theorem ziv {t:TypeId} (hu:P.underlying t=some .bool) (p q:Bool):zaa P (Op.equal t (.bool p) (.bool q))=some (p==q):=by
 have:∀ D,zaa P (Op.equalIn (D+1) t (.bool p) (.bool q))=some (p==q):=fun D=>by
  simp only [Op.equalIn,zab,zan hu,zob,zat]
 exact this 9999
theorem ziw {t e:TypeId} (hu:P.underlying t=some (.pointer e)):zaa P (Op.equal t (.pointer none) (.pointer none))=some true:=by
 have:∀ D,zaa P (Op.equalIn (D+1) t (.pointer none) (.pointer none))=some true:=fun D=>by
  simp only [Op.equalIn,zab,zan hu,zob,zat,Option.isNone_none]
 exact this 9999
theorem rp_sl0 {t e:TypeId} (hu:P.underlying t=some (.slice e)):zaa P (Op.equal t (.slice none 0 0) (.slice none 0 0))=some true:=by
 have:∀ D,zaa P (Op.equalIn (D+1) t (.slice none 0 0) (.slice none 0 0))=some true:=fun D=>by
  simp only [Op.equalIn,zab,zan hu,zob,zat,Option.isNone_none]
 exact this 9999
theorem rp_if0 {t:TypeId} {m:Array (String×TypeId)} (hu:P.underlying t=some (.interface m)):zaa P (Op.equal t .nilIface .nilIface)=some true:=by
 have:∀ D,zaa P (Op.equalIn (D+1) t .nilIface .nilIface)=some true:=fun D=>by
  simp only [Op.equalIn,zab,zan hu,zob,zat]
 exact this 9999
theorem zga [Sym] (hL:L.Ok P) (hS:LkS L) {op:BinOp} {t yt:TypeId} {x y:Operand} {a b:Value} {r:Bool} (ho:o.op=.binOp op t x y yt) (hc:∀ c v,ρ (.const c)=some v→v=c)
  (ha:ρ x=some a) (hb:ρ y=some b) (h:eqS P L x y t a b=some r) (v:Value) (hv:(op=.eql∧v=.bool r)∨(op=.neq∧v=.bool !r)):OpR P L o ρ st v st:=by
 have hfl:flat3 v=true:=by rcases hv with ⟨_,rfl⟩ | ⟨_,rfl⟩<;>rfl
 unfold eqS at h
 split at h
 ·
  rename_i k hu
  simp only [zbi,zsj] at h
  obtain ⟨p,hp,q,hq,rfl⟩:=h
  have e1:=zbe hp;have e2:=zbe hq;subst e1;subst e2
  have:=(ze3 (P:=P) (op:=op) (k:=k) (a:=p) (b:=q) (v:=v) t (by rcases hv with ⟨rfl,rfl⟩ | ⟨rfl,rfl⟩<;>rfl)).1 k (.inr (.inr rfl))
  exact zaP ho ha hb rfl rfl (zca ..) this hfl
 ·rename_i hu
  simp only [zbi,zsj] at h
  obtain ⟨p,hp,q,hq,rfl⟩:=h
  have e1:=zbM hp;have e2:=zbM hq;subst e1;subst e2
  have he:=ziv (hL.und _ _ hu) p q
  refine zaP ho ha hb rfl rfl (zg4 ..) ?_ hfl
  rcases hv with ⟨rfl,rfl⟩ | ⟨rfl,rfl⟩
  ·show zaa P (do Pure.pure (Value.bool (← Op.equal t (.bool p) (.bool q))))=_;rw [zab,he];rfl
  ·show zaa P (do Pure.pure (Value.bool (!(← Op.equal t (.bool p) (.bool q)))))=_;rw [zab,he];rfl
 ·rename_i hu
  simp only [zbi,zsj] at h
  obtain ⟨p,hp,q,hq,rfl⟩:=h
  have e1:=zaO hp;have e2:=zaO hq;subst e1;subst e2
  have key:(p.toList==q.toList)=eqT p q:=by rw [← beq_toListBytes,zdv]
  refine zaP ho ha hb rfl rfl (zfH ..) ?_ hfl
  rcases hv with ⟨rfl,rfl⟩ | ⟨rfl,rfl⟩<;>simp [binOp,Op.stringOp,zat,key]
 ·obtain ⟨fa,fb,hg,he,xs,ys,rfl,rfl⟩:=zhD (op:=op) (x:=x) (y:=y) hL h
  refine zaP ho ha hb fa fb hg ?_ hfl
  rcases hv with ⟨rfl,rfl⟩ | ⟨rfl,rfl⟩
  ·show zaa P (do Pure.pure (Value.bool (← Op.equal t (.agg xs) (.agg ys))))=_;rw [zab,he];rfl
  ·show zaa P (do Pure.pure (Value.bool (!(← Op.equal t (.agg xs) (.agg ys)))))=_;rw [zab,he];rfl
 ·obtain ⟨fa,fb,hg,he,xs,ys,rfl,rfl⟩:=zhD (op:=op) (x:=x) (y:=y) hL h
  refine zaP ho ha hb fa fb hg ?_ hfl
  rcases hv with ⟨rfl,rfl⟩ | ⟨rfl,rfl⟩
  ·show zaa P (do Pure.pure (Value.bool (← Op.equal t (.agg xs) (.agg ys))))=_;rw [zab,he];rfl
  ·show zaa P (do Pure.pure (Value.bool (!(← Op.equal t (.agg xs) (.agg ys)))))=_;rw [zab,he];rfl
 ·
  rename_i e hu
  have he0:=ziw (hL.und _ _ hu)
  have fin:(a=.pointer none∧b=.pointer none∧r=true)∨((zaf a&&zaf b)=false∧eqNil (.pointer e) a b=some r):=by
   cases hy:zc0 y with
   | true=>
     have:b=.pointer none:=by
      unfold zc0 at hy
      split at hy
      ·exact hc _ _ hb
      ·cases hy
     subst this
     rw [hy] at h
     simp only [zct] at h
     unfold zeV at h
     split at h
     ·cases h;exact .inl ⟨rfl,rfl,rfl⟩
     ·cases h;exact .inr ⟨rfl,rfl⟩
     ·cases h
   | false=>
     rw [hy] at h
     simp only [zcf] at h
     cases hx:zc0 x with
     | false=>rw [hx] at h;cases h
     | true=>
       have:a=.pointer none:=by
        unfold zc0 at hx
        split at hx
        ·exact hc _ _ ha
        ·cases hx
       subst this
       rw [hx] at h
       simp only [zct] at h
       unfold zeV at h
       split at h
       ·cases h;exact .inl ⟨rfl,rfl,rfl⟩
       ·cases h;exact .inr ⟨rfl,rfl⟩
       ·cases h
  rcases fin with ⟨rfl,rfl,rfl⟩ | ⟨hf,he⟩
  ·refine zaP ho ha hb rfl rfl (zhE ..) ?_ hfl
   rcases hv with ⟨rfl,rfl⟩ | ⟨rfl,rfl⟩
   ·show zaa P (do Pure.pure (Value.bool (← Op.equal t _ _)))=_;rw [zab,he0];rfl
   ·show zaa P (do Pure.pure (Value.bool (!(← Op.equal t _ _))))=_;rw [zab,he0];rfl
  ·exact zfr hS ho ha hb hf hu he v hv
 ·rename_i e hu
  have he0:=rp_sl0 (hL.und _ _ hu)
  have fin:(a=.slice none 0 0∧b=.slice none 0 0∧r=true)∨((zaf a&&zaf b)=false∧eqNil (.slice e) a b=some r):=by
   cases hy:zc1 y with
   | true=>
     have:b=.slice none 0 0:=by
      unfold zc1 at hy
      split at hy
      ·exact hc _ _ hb
      ·cases hy
     subst this
     rw [hy] at h
     simp only [zct] at h
     unfold zeW at h
     split at h
     ·cases h;exact .inl ⟨rfl,rfl,rfl⟩
     ·cases h;exact .inr ⟨rfl,rfl⟩
     ·cases h
   | false=>
     rw [hy] at h
     simp only [zcf] at h
     cases hx:zc1 x with
     | false=>rw [hx] at h;cases h
     | true=>
       have:a=.slice none 0 0:=by
        unfold zc1 at hx
        split at hx
        ·exact hc _ _ ha
        ·cases hx
       subst this
       rw [hx] at h
       simp only [zct] at h
       unfold zeW at h
       split at h
       ·cases h;exact .inl ⟨rfl,rfl,rfl⟩
       ·cases h;exact .inr ⟨rfl,rfl⟩
       ·cases h
  rcases fin with ⟨rfl,rfl,rfl⟩ | ⟨hf,he⟩
  ·refine zaP ho ha hb rfl rfl (zh7 ..) ?_ hfl
   rcases hv with ⟨rfl,rfl⟩ | ⟨rfl,rfl⟩
   ·show zaa P (do Pure.pure (Value.bool (← Op.equal t _ _)))=_;rw [zab,he0];rfl
   ·show zaa P (do Pure.pure (Value.bool (!(← Op.equal t _ _))))=_;rw [zab,he0];rfl
  ·exact zfr hS ho ha hb hf hu he v hv
 ·rename_i e hu
  have he0:=rp_if0 (hL.und _ _ hu)
  have fin:(a=.nilIface∧b=.nilIface∧r=true∧((∃ c,x=.const c)∨∃ c,y=.const c))∨((zaf a&&zaf b)=false∧eqNil (.interface e) a b=some r):=by
   cases hy:zc2 y with
   | true=>
     have:b=.nilIface∧∃ c,y=.const c:=by
      unfold zc2 at hy
      split at hy
      ·exact ⟨hc _ _ hb,_,rfl⟩
      ·cases hy
     obtain ⟨rfl,hyc⟩:=this
     rw [hy] at h
     simp only [zct] at h
     unfold zeX at h
     split at h
     ·cases h;exact .inl ⟨rfl,rfl,rfl,.inr hyc⟩
     ·cases h;exact .inr ⟨rfl,rfl⟩
     ·cases h
   | false=>
     rw [hy] at h
     simp only [zcf] at h
     cases hx:zc2 x with
     | false=>rw [hx] at h;cases h
     | true=>
       have:a=.nilIface∧∃ c,x=.const c:=by
        unfold zc2 at hx
        split at hx
        ·exact ⟨hc _ _ ha,_,rfl⟩
        ·cases hx
       obtain ⟨rfl,hxc⟩:=this
       rw [hx] at h
       simp only [zct] at h
       unfold zeX at h
       split at h
       ·cases h;exact .inl ⟨rfl,rfl,rfl,.inl hxc⟩
       ·cases h;exact .inr ⟨rfl,rfl⟩
       ·cases h
  rcases fin with ⟨rfl,rfl,rfl,hcc⟩ | ⟨hf,he⟩
  ·refine zaP ho ha hb rfl rfl (zh8 _ _ _ _ hcc) ?_ hfl
   rcases hv with ⟨rfl,rfl⟩ | ⟨rfl,rfl⟩
   ·show zaa P (do Pure.pure (Value.bool (← Op.equal t _ _)))=_;rw [zab,he0];rfl
   ·show zaa P (do Pure.pure (Value.bool (!(← Op.equal t _ _))))=_;rw [zab,he0];rfl
  ·exact zfr hS ho ha hb hf hu he v hv
 ·cases h
theorem zhF {a b s:ByteArray} (h:catS a b=some s):s=a++b∧a.size+b.size≤9223372036854775807:=by
 unfold catS at h
 cases hb:Nat.ble (a.size+b.size) 9223372036854775807 with
 | false=>rw [hb] at h;cases h
 | true=>rw [hb] at h;cases h;exact ⟨rfl,Nat.le_of_ble_eq_true hb⟩
theorem sS_run {op:BinOp} {a b:ByteArray} {v:Value} (t:TypeId) (h:sS op a b=some v):zaa P (binOp op t (.string a) (.string b))=some v∧flat3 v=true∧op≠.eql∧op≠.neq:=by
 have e1:(a.toList==b.toList)=eqT a b:=by rw [← beq_toListBytes,zdv]
 have e2:Op.bytesLess a.toList b.toList=ltT a b:=by rw [ByteArray.toList_eq,ByteArray.toList_eq];rfl
 cases op<;>simp only [sS,zbi,zsj,reduceCtorEq] at h
 case add=>
  obtain ⟨s,hs,rfl⟩:=h
  obtain ⟨rfl,hle⟩:=zhF hs
  refine ⟨?_,rfl,by simp,by simp⟩
  have:¬ ((a.size+b.size:Nat):Int)>IntKind.i64.max:=by
   have:IntKind.i64.max=9223372036854775807:=by decide
   omega
  simp only [binOp,Op.stringOp]
  rw [if_neg this];rfl
 all_goals
  subst h
  refine ⟨?_,rfl,by simp,by simp⟩
  simp only [binOp,Op.stringOp,e1,e2]
  rfl
theorem zhG [Sym] (hL:L.Ok P) (hS:LkS L) {op:BinOp} {t yt:TypeId} {x y:Operand} {a b v:Value} (ho:o.op=.binOp op t x y yt) (hc:∀ c v,ρ (.const c)=some v→v=c)
  (ha:ρ x=some a) (hb:ρ y=some b) (h:binS P L x y op t a b=some v):OpR P L o ρ st v st:=by
 unfold binS at h
 split at h
 ·simp only [zbi,zsj] at h
  obtain ⟨r,hr,rfl⟩:=h
  exact zga hL hS ho hc ha hb hr _ (.inl ⟨rfl,rfl⟩)
 ·simp only [zbi,zsj] at h
  obtain ⟨r,hr,rfl⟩:=h
  exact zga hL hS ho hc ha hb hr _ (.inr ⟨rfl,rfl⟩)
 ·rename_i hn1 hn2
  have hne:op≠.eql∧op≠.neq:=⟨fun e=>hn1 e,fun e=>hn2 e⟩
  split at h
  ·rename_i k hu
   split at h
   ·simp only [zbi] at h
    obtain ⟨n,hn,h⟩:=h
    have e1:=zbe hn;subst e1
    split at h
    ·rename_i k' m
     have:=ze3 (P:=P) t h
     exact zaP ho ha hb rfl rfl (zca ..) (this.1 k' (.inl rfl)) this.2
    ·cases h
   ·simp only [zbi] at h
    obtain ⟨n,hn,h⟩:=h
    have e1:=zbe hn;subst e1
    split at h
    ·rename_i k' m
     have:=ze3 (P:=P) t h
     exact zaP ho ha hb rfl rfl (zca ..) (this.1 k' (.inr (.inl rfl))) this.2
    ·cases h
   ·simp only [zbi] at h
    obtain ⟨n,hn,m,hm,h⟩:=h
    have e1:=zbe hn;subst e1
    have e2:=zbe hm;subst e2
    have:=ze3 (P:=P) t h
    exact zaP ho ha hb rfl rfl (zca ..) (this.1 k (.inr (.inr rfl))) this.2
  ·simp only [zbi] at h
   obtain ⟨p,hp,q,hq,h⟩:=h
   have e1:=zaO hp;subst e1
   have e2:=zaO hq;subst e2
   obtain ⟨h1,h2,_⟩:=sS_run (P:=P) t h
   exact zaP ho ha hb rfl rfl (zfH ..) h1 h2
  ·cases h
end
section
variable {P : Program} {L : Lk} {α : Type} {ρ : Operand → Option Value} {o : Oper} {st : SS}
theorem zhH {x:Operand} {v:Value} (ho:o.op=.move x∨o.op=.assign x) (hx:ρ x=some v):OpR P L o ρ st v st:=by
 refine .pure fun ρ' hρ=>?_
 unfold zad
 rcases ho with ho | ho<;>simp only [ho]<;>exact hρ x v hx
theorem zhI {c a b:Operand} {vc v:Value} {b':Bool} (ho:o.op=.pick c a b) (hc:ρ c=some vc) (hb:asB vc=some b') (hv:cond b' (ρ a) (ρ b)=some v):OpR P L o ρ st v st:=by
 refine .pure fun ρ' hρ=>?_
 unfold zad
 have:=zbM hb;subst this
 simp only [ho,hρ c _ hc,zob]
 cases b' with
 | true=>exact hρ _ _ hv
 | false=>exact hρ _ _ hv
theorem zg5 {x:Operand} {u v:Value} (ho:o.op=.nilCheck x) (hx:ρ x=some u) (h:nilC u=some v):OpR P L o ρ st v st:=by
 refine .pure fun ρ' hρ=>?_
 unfold zad
 simp only [ho,hρ x _ hx,zob]
 unfold nilC at h
 split at h<;>cases h<;>rfl
theorem s_unOp {op:UnOp} {t:TypeId} {x:Operand} {v:Value} (ho:o.op=.unOp op t x) (h:zad P L ρ o=some v):OpR P L o ρ st v st:=by
 refine .pure fun ρ' hρ=>?_
 unfold zad at h ⊢
 simp only [ho,zbi] at h ⊢
 obtain ⟨a,ha,h⟩:=h
 exact ⟨a,hρ x a ha,h⟩
theorem zhJ {s d:TypeId} {x:Operand} {v:Value} (ho:o.op=.convert s d x) (h:zad P L ρ o=some v):OpR P L o ρ st v st:=by
 refine .pure fun ρ' hρ=>?_
 unfold zad at h ⊢
 simp only [ho,zbi] at h ⊢
 obtain ⟨a,ha,h⟩:=h
 exact ⟨a,hρ x a ha,h⟩
theorem ze4 {t:TypeId} {x:Operand} {v:Value} (ho:o.op=.makeInterface t x) (h:zad P L ρ o=some v):OpR P L o ρ st v st:=by
 refine .pure fun ρ' hρ=>?_
 unfold zad at h ⊢
 simp only [ho,zbi] at h ⊢
 obtain ⟨a,ha,h⟩:=h
 exact ⟨a,hρ x a ha,h⟩
theorem zg6 {f:Fn} {a b:Array Operand} {v:Value} (ho:o.op=.makeFunc f a b) (h:zad P L ρ o=some v):OpR P L o ρ st v st:=by
 refine .pure fun ρ' hρ=>?_
 unfold zad at h ⊢
 cases f<;>simp only [ho,zbi,reduceCtorEq] at h ⊢
 obtain ⟨xs,hxs,ys,hys,h⟩:=h
 exact ⟨xs,mapM_mono hρ _ _ hxs,ys,mapM_mono hρ _ _ hys,h⟩
theorem zg7 {t:TypeId} {x:Operand} {lo hi:Option Operand} {s r:ByteArray} {l h:Int} (ho:o.op=.slice t x lo hi none) (hu:L.und t=some .string) (hx:ρ x=some (.string s))
  (hl:za7 ρ 0 lo=some l) (hh:za7 ρ (s.size:Int) hi=some h) (hr:subS s l h=some r):OpR P L o ρ st (.string r) st:=by
 refine .pure fun ρ' hρ=>?_
 unfold subS at hr
 cases hb:(decide (0≤l)&&decide (l≤h)&&decide (h≤(s.size:Int))) with
 | false=>rw [hb] at hr;cases hr
 | true=>
   rw [hb] at hr;cases hr
   simp only [zae,decide_eq_true_eq] at hb
   obtain ⟨rl,e1,e2⟩:=zbu hρ hl
   obtain ⟨rh,e3,e4⟩:=zbu hρ hh
   have hs:=zcO (n:=s.size) (cap:=s.size) (lo:=rl) (hi:=rh) (l:=l) (h:=h) (by cases rl<;>simpa using e2) (by cases rh<;>simpa using e4) hb.1.1 hb.1.2 hb.2
   unfold zad
   simp only [ho,hρ x _ hx,zob]
   refine zbi.2 ⟨rl,e1,zbi.2 ⟨rh,e3,?_⟩⟩
   simp only [hu,hs,Option.map_some]
theorem zg8 {t e n z i k:Nat} {x:Operand} {lo hi:Option Operand} {v r:Value} {l h:Int} (ho:o.op=.slice t x lo hi none) (hu:L.und t=some (.array n e)) (hz:L.size e=some z) (hx:ρ x=some v) (ha:addr? v=some (i,k))
  (hl:za7 ρ 0 lo=some l) (hh:za7 ρ (n:Int) hi=some h) (hr:zg1 i k n z l h=some r):OpR P L o ρ st r st:=by
 refine .pure fun ρ' hρ=>?_
 unfold zg1 at hr
 cases hb:(decide (0≤l)&&decide (l≤h)&&decide (h≤(n:Int))) with
 | false=>rw [hb] at hr;cases hr
 | true=>
   rw [hb] at hr;cases hr
   simp only [zae,decide_eq_true_eq] at hb
   obtain ⟨rl,e1,e2⟩:=zbu hρ hl
   obtain ⟨rh,e3,e4⟩:=zbu hρ hh
   have hs:=zcO (n:=n) (cap:=n) (lo:=rl) (hi:=rh) (l:=l) (h:=h) (by cases rl<;>simpa using e2) (by cases rh<;>simpa using e4) hb.1.1 hb.1.2 hb.2
   have:=zfy ha;subst this
   unfold zad
   simp only [ho,hρ x _ hx,zob]
   refine zbi.2 ⟨rl,e1,zbi.2 ⟨rh,e3,?_⟩⟩
   simp only [hu,hz,zob,hs,Option.map_some]
theorem zhK {t e z:Nat} {x:Operand} {lo hi:Option Operand} {v r:Value} {l h:Int} (ho:o.op=.slice t x lo hi none) (hu:L.und t=some (.slice e)) (hz:L.size e=some z) (hx:ρ x=some v)
  (hl:za7 ρ 0 lo=some l) (hh:(match hi with | none=>sliceLen v | some y=>(ρ y).bind asN)=some h) (hr:st.resl v z l h=some r):OpR P L o ρ st r st:=by
 have hbl:blindOp L o.op=false:=by rw [ho];simp [blindOp,strT,hu]
 unfold SS.resl at hr
 split at hr
 ·
  refine .pure fun ρ' hρ=>?_
  cases hb:(decide (l=0)&&decide (h=0)) with
  | false=>rw [hb] at hr;cases hr
  | true=>
    rw [hb] at hr;cases hr
    simp only [zae,decide_eq_true_eq] at hb
    obtain ⟨rfl,rfl⟩:=hb
    obtain ⟨rl,e1,e2⟩:=zbu hρ hl
    have:∃ rh,(match hi with | some v=>(ρ' v).map some | none=>some none)=some rh∧(match rh with | none=>(0:Int)=(0:Nat) | some v=>∃ k,v=Value.int k 0):=by
     cases hi with
     | none=>exact ⟨none,rfl,rfl⟩
     | some y=>
       simp only [zbi] at hh
       obtain ⟨u,hu',hn⟩:=hh
       exact ⟨some u,by simp [hρ _ _ hu'],zbf hn⟩
    obtain ⟨rh,e3,e4⟩:=this
    have hs:=zcO (n:=0) (cap:=0) (lo:=rl) (hi:=rh) (l:=0) (h:=0) (by cases rl with | none=>simp | some _=>simpa using e2) (by cases rh with | none=>simp | some _=>simpa using e4) (by omega) (by omega) (by omega)
    unfold zad
    simp only [ho,hρ x _ hx,zob]
    refine zbi.2 ⟨rl,e1,zbi.2 ⟨rh,e3,?_⟩⟩
    simp only [hu,hz,zob,hs,Option.map_some]
 ·rename_i i k n cap
  cases hb:(decide (0≤l)&&decide (l≤h)&&decide (h≤(cap:Int))) with
  | false=>rw [hb] at hr;cases hr
  | true=>
    rw [hb] at hr
    simp only [zct,zbi] at hr
    simp only [zae,decide_eq_true_eq] at hb
    obtain ⟨ob,hob,hr⟩:=hr
    refine .read hbl fun ρ' hρ=>?_
    obtain ⟨rl,e1,e2⟩:=zbu hρ hl
    have:∃ rh,(match hi with | some v=>(ρ' v).map some | none=>some none)=some rh∧(match rh with | none=>h=(n:Int) | some v=>∃ k,v=Value.int k h):=by
     cases hi with
     | none=>simp only [sliceLen,zsj] at hh;exact ⟨none,rfl,hh.symm⟩
     | some y=>
       simp only [zbi] at hh
       obtain ⟨u,hu',hn⟩:=hh
       exact ⟨some u,by simp [hρ _ _ hu'],zbf hn⟩
    obtain ⟨rh,e3,e4⟩:=this
    have hs:=zcO (n:=n) (cap:=cap) (lo:=rl) (hi:=rh) (l:=l) (h:=h) (by cases rl<;>simpa using e2) (by cases rh<;>simpa using e4) hb.1.1 hb.1.2 hb.2
    refine ⟨?_,?_,i,(fun ob=>match ob with
     | .cells _ z'=>cond (Nat.beq z' z||Nat.beq z' 0) (some (.slice (some ⟨i,cond (Nat.beq cap l.toNat) k (k+l.toNat*z),none⟩) (h.toNat-l.toNat) (cap-l.toNat))) none
     | .table _=>some (.slice (some ⟨i,cond (Nat.beq cap l.toNat) k (k+l.toNat*z),none⟩) (h.toNat-l.toNat) (cap-l.toNat))
     | _=>none),ob,?_,hob,hr⟩
    ·unfold zad;simp only [ho,hρ x _ hx,zob]
     have q1:∀ (X:Option (Option Value)) (F:Option Value→Option Value),X=some rl→F rl=none→X.bind F=none:=fun X F h1 h2=>by rw [h1];exact h2
     have q2:∀ (X:Option (Option Value)) (F:Option Value→Option Value),X=some rh→F rh=none→X.bind F=none:=fun X F h1 h2=>by rw [h1];exact h2
     exact q1 _ _ e1 (q2 _ _ e3 rfl)
    ·unfold zak;simp only [ho]
    ·unfold zav;simp only [ho,hρ x _ hx,zob]
     refine zbi.2 ⟨rl,e1,zbi.2 ⟨rh,e3,?_⟩⟩
     simp only [hu,hz,zob,hs,Option.map_some]
     rfl
 ·cases hr
theorem zgr {s f z i k:Nat} {x:Operand} {v:Value} {fields:Array Field} {fd:Field} (ho:o.op=.fieldAddr s x f) (hx:ρ x=some v) (ha:addr? v=some (i,k)) (hu:L.und s=some (.struct fields)) (hf:fields[f]?=some fd)
  (hz:L.size fd.type=some z) (hn:Nat.beq z 0=false):OpR P L o ρ st (ptr i (k+fd.offset)) st:=by
 refine .pure fun ρ' hρ=>?_
 unfold zad
 simp only [ho,hρ x _ hx,zob,ha,hu,hf,hz,hn,zcf]
theorem zg9 {t len e z i k:Nat} {x ix:Operand} {a v:Value} {n:Int} (ho:o.op=.indexAddr t x ix) (hx:ρ x=some a) (hi:ρ ix=some v) (hn:asN v=some n) (hu:L.und t=some (.array len e)) (hz:L.size e=some z)
  (hp:zg0 a len n z=some (i,k)):OpR P L o ρ st (ptr i k) st:=by
 refine .pure fun ρ' hρ=>?_
 obtain ⟨kk,rfl⟩:=zbf hn
 unfold zg0 at hp
 split at hp
 ·cases hb:(decide (0≤n)&&decide (n<(len:Int))) with
  | false=>rw [hb] at hp;cases hp
  | true=>
    rw [hb] at hp;cases hp
    simp only [zae,decide_eq_true_eq] at hb
    unfold zad
    simp only [ho,hρ x _ hx,hρ ix _ hi,zob,asNat?,if_pos hb.1,hu,hz,Option.map_some]
    have:Nat.blt n.toNat len=true:=by rw [Nat.blt_eq];omega
    rw [this];rfl
 ·cases hp
theorem zhL {t e z i k:Nat} {x ix:Operand} {a v:Value} {n:Int} (ho:o.op=.indexAddr t x ix) (hx:ρ x=some a) (hi:ρ ix=some v) (hn:asN v=some n) (hu:L.und t=some (.slice e)) (hz:L.size e=some z)
  (hp:zbG a n z=some (i,k)):OpR P L o ρ st (ptr i k) st:=by
 refine .pure fun ρ' hρ=>?_
 obtain ⟨kk,rfl⟩:=zbf hn
 unfold zbG at hp
 split at hp
 ·rename_i i' k' len cap
  cases hb:(decide (0≤n)&&decide (n<(len:Int))) with
  | false=>rw [hb] at hp;cases hp
  | true=>
    rw [hb] at hp;cases hp
    simp only [zae,decide_eq_true_eq] at hb
    unfold zad
    simp only [ho,hρ x _ hx,hρ ix _ hi,zob,asNat?,if_pos hb.1,hu,hz,Option.map_some]
    have:Nat.blt n.toNat len=true:=by rw [Nat.blt_eq];omega
    rw [this];rfl
 ·cases hp
theorem zix {t f:Nat} {x:Operand} {a v:Value} (ho:o.op=.field t x f) (hx:ρ x=some a) (h:zfo L t f a=some v):OpR P L o ρ st v st:=by
 refine .pure fun ρ' hρ=>?_
 unfold zfo at h
 split at h
 ·rename_i fields hu
  split at h
  ·rename_i cs
   unfold zad
   simp only [ho,hρ x _ hx,zob,hu]
   exact h
  ·cases h
 ·cases h
theorem zha {t:Nat} {x ix:Operand} {s:ByteArray} {u v:Value} {n:Int} (ho:o.op=.index t x ix) (hx:ρ x=some (.string s)) (hi:ρ ix=some u) (hn:asN u=some n) (hu:L.und t=some .string) (h:idxS s n=some v):
  OpR P L o ρ st v st:=by
 refine .pure fun ρ' hρ=>?_
 obtain ⟨kk,rfl⟩:=zbf hn
 unfold idxS at h
 cases hb:decide (0≤n) with
 | false=>rw [hb] at h;cases h
 | true=>
   rw [hb] at h
   simp only [zct,zmi] at h
   obtain ⟨b,hb1,rfl⟩:=h
   have hb:=of_decide_eq_true hb
   unfold zad
   simp only [ho,hρ x _ hx,hρ ix _ hi,zob,asNat?,if_pos hb,hu]
   have:s[n.toNat]?=some b:=by
    unfold bl at hb1
    rw [Array.getElem?_toList] at hb1
    obtain ⟨h1,h2⟩:=Array.getElem?_eq_some_iff.1 hb1
    have h1':n.toNat<s.size:=h1
    rw [getElem?_pos s n.toNat h1']
    exact congrArg some h2
   rw [this];rfl
theorem zgt {t len e:Nat} {x ix:Operand} {a u v:Value} {n:Int} (ho:o.op=.index t x ix) (hx:ρ x=some a) (hi:ρ ix=some u) (hn:asN u=some n) (hu:L.und t=some (.array len e)) (h:aggI L len e a n=some v):
  OpR P L o ρ st v st:=by
 refine .pure fun ρ' hρ=>?_
 obtain ⟨kk,rfl⟩:=zbf hn
 unfold aggI at h
 cases hb:(decide (0≤n)&&decide (n<(len:Int))) with
 | false=>rw [hb] at h;cases h
 | true=>
   rw [hb] at h
   simp only [zct] at h
   simp only [zae,decide_eq_true_eq] at hb
   split at h
   ·unfold zad
    simp only [ho,hρ x _ hx,hρ ix _ hi,zob,asNat?,if_pos hb.1,hu]
    have:Nat.blt n.toNat len=true:=by rw [Nat.blt_eq];omega
    rw [this];exact h
   ·cases h
theorem zhM {ix:Nat} {t:Operand} {a v:Value} (ho:o.op=.extract t ix) (hx:ρ t=some a) (h:tupG a ix=some v):OpR P L o ρ st v st:=by
 refine .pure fun ρ' hρ=>?_
 unfold tupG at h
 split at h
 ·unfold zad
  simp only [ho,hρ t _ hx,zob]
  exact h
 ·cases h
theorem s_load {t i k:Nat} {x:Operand} {a v:Value} (ho:o.op=.load t x) (hx:ρ x=some a) (ha:addr? a=some (i,k)) (h:st.loadT L t i k=some v):OpR P L o ρ st v st:=by
 refine .read (by rw [ho];rfl) fun ρ' hρ=>⟨by unfold zad;simp only [ho],by unfold zak;simp only [ho],?_⟩
 have key:∃ ob,st.mem.get i=some ob∧(match ob with | .cells c _=>zaU L t k c | .table c=>zaU L t k c | _=>none)=some v:=by
  unfold SS.loadT at h
  split at h
  ·rename_i f hu
   simp only [zbi] at h
   obtain ⟨n,hn,h⟩:=h
   unfold SS.ldN at h
   simp only [zbi] at h
   obtain ⟨ob,hob,h⟩:=h
   refine ⟨ob,hob,?_⟩
   cases ob<;>simp only [reduceCtorEq] at h ⊢<;>(unfold zaU;simp only [hu,hn,zob];exact h)
  ·rename_i n0 e hu
   simp only [zbi] at h
   obtain ⟨n,hn,h⟩:=h
   unfold SS.ldN at h
   simp only [zbi] at h
   obtain ⟨ob,hob,h⟩:=h
   refine ⟨ob,hob,?_⟩
   cases ob<;>simp only [reduceCtorEq] at h ⊢<;>(unfold zaU;simp only [hu,hn,zob];exact h)
  ·rename_i d h1 h2 hu
   unfold SS.ld at h
   simp only [zbi] at h
   obtain ⟨ob,hob,h⟩:=h
   refine ⟨ob,hob,?_⟩
   cases ob<;>simp only [reduceCtorEq] at h ⊢<;>
    (unfold zaU;rw [hu];cases d<;>first | exact h | exact absurd rfl (h1 _) | exact absurd rfl (h2 _ _))
  ·cases h
 obtain ⟨ob,hob,h⟩:=key
 refine ⟨i,(fun ob=>match ob with | .cells c _=>zaU L t k c | .table c=>zaU L t k c | _=>none),ob,?_,hob,h⟩
 unfold zav
 simp only [ho,hρ x _ hx,zob,ha,Option.map_some]
 rfl
theorem ziy [Sym] (hL:L.Ok P) {s d e:TypeId} {x:Operand} {v:Value} {r:ByteArray} (ho:o.op=.convert s d x) (hs:L.und s=some (.slice e)) (hd:L.und d=some .string) (he:L.und e=some (.int .u8)) (hx:ρ x=some v) (h:st.bytes v=some r):
  OpR P L o ρ st (.string r) st:=by
 unfold SS.bytes at h
 split at h
 ·cases h
  refine .pure fun ρ' hρ=>?_
  unfold zad
  simp only [ho,hρ x _ hx,zob,zaz,zct]
  refine pv_of ?_ rfl
  unfold convert
  simp only [zab,zan (hL.und _ _ hs),zan (hL.und _ _ hd),zan (hL.und _ _ he),zob]
  rfl
 ·rename_i i k n cap
  simp only [zbi] at h
  obtain ⟨ob,hob,h⟩:=h
  refine .read (by rw [ho];simp [blindOp,intT,hs]) fun ρ' hρ=>⟨?_,by unfold zak;simp only [ho,hρ x _ hx,zob,hs,hd],?_⟩
  ·unfold zad;simp only [ho,hρ x _ hx,zob];rfl
  ·cases ob<;>simp only [reduceCtorEq] at h
   rename_i c z
   refine ⟨i,(fun ob=>match ob with
    | .cells c _=>(cut c k n).bind fun d=>(zcs d).map fun l=>.string ⟨l.toArray⟩
    | _=>none),_,?_,hob,?_⟩
   ·unfold zav;simp only [ho,hρ x _ hx,zob,hs,hd,he];rfl
   ·simp only [zbi,zmi] at h ⊢
    obtain ⟨d',hd',l,hl,rfl⟩:=h
    exact ⟨d',hd',l,hl,rfl⟩
 ·cases h
theorem zd6 {e:TypeId} {ob:AObj} {vf:Nat→Value} (ho:(∃ e,o.op=.alloc e)∨(∃ e x,o.op=.box e x)∨(∃ t x,o.op=.range t x)∨∃ t,o.op=.makeMap t none) (h:zak L ρ o=some (ob,vf)):OpR P L o ρ st (vf st.next) (st.new ob):=by
 refine .alloc fun ρ' hρ=>?_
 rcases ho with ⟨e,ho⟩ | ⟨e,x,ho⟩ | ⟨t,x,ho⟩ | ⟨t,ho⟩
 ·refine ⟨by unfold zad;simp only [ho],vf,?_,rfl⟩
  unfold zak at h ⊢;simp only [ho] at h ⊢;exact h
 ·refine ⟨by unfold zad;simp only [ho],vf,?_,rfl⟩
  unfold zak at h ⊢;simp only [ho,zmi] at h ⊢
  obtain ⟨u,hu,h⟩:=h;exact ⟨u,hρ _ _ hu,h⟩
 ·refine ⟨by unfold zad;simp only [ho],vf,?_,rfl⟩
  unfold zak at h ⊢;simp only [ho,zbi] at h ⊢
  obtain ⟨u,hu,h⟩:=h;exact ⟨u,hρ _ _ hu,h⟩
 ·refine ⟨by unfold zad;simp only [ho],vf,?_,rfl⟩
  unfold zak at h ⊢;simp only [ho] at h ⊢;exact h
theorem zhN [Sym] (hL:L.Ok P) {s d:TypeId} {x:Operand} {ob:AObj} {vf:Nat→Value} {e:TypeId} (ho:o.op=.convert s d x) (hs:L.und s=some .string) (hd:L.und d=some (.slice e)) (h:zak L ρ o=some (ob,vf)):
  OpR P L o ρ st (vf st.next) (st.new ob):=by
 refine .alloc fun ρ' hρ=>?_
 unfold zak at h
 simp only [ho,zbi,hs,hd] at h
 obtain ⟨v,hv,h⟩:=h
 split at h<;>try cases h
 rename_i e' b h1 h2
 cases h2
 split at h<;>try cases h
 rename_i he
 refine ⟨?_,(fun n=>.slice (some ⟨n,0,none⟩) b.size b.size),?_,rfl⟩
 ·unfold zad
  simp only [ho,hρ x _ hv,zob,zaz,zct]
  unfold pureV convert
  simp only [zab,zan (hL.und _ _ hs),zan (hL.und _ _ hd),zan (hL.und _ _ he),zob]
  rfl
 ·unfold zak
  simp only [ho,hρ x _ hv,zob,hs,hd,he]
end
end Go.E
namespace Go.E
open Go
theorem zey:∀ (c:List Value) (k off:Nat) (arr:Array Value),off+k+c.length≤arr.size→
  ((c.zipIdx k).foldl (fun (cs:Array Value) (x:Value×Nat)=>cs.setIfInBounds (off+x.2) x.1) arr).toList=arr.toList.take (off+k)++(c++arr.toList.drop (off+k+c.length))
 | [],k,off,arr,h=>by simp
 | x::c,k,off,arr,h=>by
   simp only [List.length_cons] at h
   have hlen:off+k<arr.toList.length:=by simp;omega
   simp only [List.zipIdx_cons,List.foldl_cons]
   rw [zey c (k+1) off _ (by simp;omega)]
   simp only [Array.toList_setIfInBounds,List.set_eq_take_append_cons_drop,if_pos hlen,List.length_cons]
   have e1:(arr.toList.take (off+k)).length=off+k:=by simp;omega
   have e2:off+(k+1)=(arr.toList.take (off+k)).length+1:=by rw [e1];omega
   have e3:off+(k+1)+c.length=(arr.toList.take (off+k)).length+(1+c.length):=by rw [e1];omega
   rw [e3,List.drop_append,e2,List.take_append]
   simp only [List.take_of_length_le (show (arr.toList.take (off+k)).length≤(arr.toList.take (off+k)).length+1 by omega),Nat.add_sub_cancel_left,
    List.drop_of_length_le (show (arr.toList.take (off+k)).length≤(arr.toList.take (off+k)).length+(1+c.length) by omega)]
   rw [show 1+c.length=c.length+1 by omega,List.drop_succ_cons,List.drop_drop]
   simp only [List.take_succ_cons,List.take_zero,List.nil_append,List.append_assoc,List.cons_append,List.nil_append]
   rw [show off+k+1+c.length=off+k+(c.length+1) by omega]
theorem zej {v:Value} {n:Nat} {c:List Value} (h:zeY v n=some c):v.cells.toList=c∧v.cells.size=n:=by
 unfold zeY at h
 cases hb:Nat.beq v.cells.size n with
 | false=>rw [hb] at h;cases h
 | true=>rw [hb] at h;cases h;exact ⟨rfl,beq_true hb⟩
theorem ziz {l c:List Value} {off:Nat} (h:off+c.length≤l.length):(spl l off c).length=l.length:=by
 unfold spl;simp;omega
theorem zcU {α:Type} {ρ:Operand→Option Value} {pl place:Nat→Option (Nat×Nat)} {K:List Value→Option α} {r:α}:∀ (ps:List (Nat×Operand)) (l:List Value) (arr:Array Value),arr.toList=l→
  (∀ i os,pl i=some os→place i=some os∧os.1+os.2≤l.length)→zcE ρ pl ps l K=some r→
  ∃ vs,(ps.mapM fun p=>(ρ p.2).map fun v=>(p.1,v))=some vs∧∃ arr',Instr.fill place arr vs=some arr'∧K arr'.toList=some r
 | [],l,arr,ha,hp,h=>⟨[],rfl,arr,rfl,by rw [ha];exact h⟩
 | x::ps,l,arr,ha,hp,h=>by
   simp only [zcE,zbi] at h
   obtain ⟨v,hv,os,hos,c,hc,h⟩:=h
   obtain ⟨h1,h2⟩:=zej hc
   obtain ⟨hpl,hle⟩:=hp _ _ hos
   have hcl:c.length=os.2:=by rw [← h1,← h2];simp
   have hsz:arr.size=l.length:=by rw [← ha];simp
   have key:(v.cells.zipIdx.foldl (fun (cs:Array Value) (x:Value×Nat)=>cs.setIfInBounds (os.1+x.2) x.1) arr).toList=spl l os.1 c:=by
    rw [← Array.foldl_toList,Array.toList_zipIdx,h1,zey c 0 os.1 arr (by omega),ha]
    rfl
   obtain ⟨vs,hvs,arr',hf,hK⟩:=zcU (α:=α) ps (spl l os.1 c) _ key (fun i os' hi=>by
    obtain ⟨a,b⟩:=hp i os' hi
    exact ⟨a,by rw [ziz (by omega)];exact b⟩) h
   refine ⟨(x.1,v)::vs,by simp [hv,hvs],arr',?_,hK⟩
   unfold Instr.fill
   rw [hpl]
   have:(decide (v.cells.size≠os.2)||decide (os.1+v.cells.size>arr.size))=false:=by
    rw [h2];simp;omega
   simp only [this,Bool.false_eq_true,if_false]
   exact hf
theorem zek {α:Type} {ρ:Operand→Option Value} {z:Nat} {r:α}:∀ (ps:List (Nat×Operand)) (i:Nat) (K:List Value→Option α) (arr:Array Value),arr.size=(i+ps.length)*z→zdR ρ z ps i K=some r→
  ∃ vs,(ps.mapM fun p=>(ρ p.2).map fun v=>(p.1,v))=some vs∧∃ arr' l,Instr.fill (fun j=>some (j*z,z)) arr vs=some arr'∧arr'.toList=arr.toList.take (i*z)++l∧K l=some r
 | [],i,K,arr,ha,h=>⟨[],rfl,arr,[],rfl,by
   have:arr.toList.length≤i*z:=by simp [ha]
   rw [List.take_of_length_le this];simp,h⟩
 | x::ps,i,K,arr,ha,h=>by
   simp only [zdR] at h
   cases hb:Nat.beq x.1 i with
   | false=>rw [hb] at h;cases h
   | true=>
     rw [hb] at h
     simp only [zct,zbi] at h
     obtain ⟨v,hv,c,hc,h⟩:=h
     have hx:=beq_true hb
     obtain ⟨h1,h2⟩:=zej hc
     have hcl:c.length=z:=by rw [← h1,← h2];simp
     simp only [List.length_cons] at ha
     have hsz:i*z+c.length≤arr.size:=by rw [ha,hcl,← Nat.succ_mul];exact Nat.mul_le_mul_right _ (by omega)
     have key:(v.cells.zipIdx.foldl (fun (cs:Array Value) (x:Value×Nat)=>cs.setIfInBounds (i*z+x.2) x.1) arr).toList=arr.toList.take (i*z)++(c++arr.toList.drop (i*z+c.length)):=by
      rw [← Array.foldl_toList,Array.toList_zipIdx,h1,zey c 0 (i*z) arr (by omega)]
      rfl
     have hlen:(arr.toList.take (i*z)).length=i*z:=by simp;omega
     generalize harr:v.cells.zipIdx.foldl (fun (cs:Array Value) (x:Value×Nat)=>cs.setIfInBounds (i*z+x.2) x.1) arr=arr2 at key
     have hsz2:arr2.size=arr.size:=by
      rw [← Array.length_toList,key];simp;omega
     obtain ⟨vs,hvs,arr',l,hf,hl,hK⟩:=zek ps (i+1) (fun l=>K (c++l)) arr2 (by rw [hsz2,ha];congr 1;omega) h
     refine ⟨(x.1,v)::vs,by simp [hv,hvs],arr',c++l,?_,?_,hK⟩
     ·unfold Instr.fill
      simp only [hx]
      have:(decide (v.cells.size≠z)||decide (i*z+v.cells.size>arr.size))=false:=by
       rw [h2];simp;omega
      simp only [this,Bool.false_eq_true,if_false]
      have harr':(v.cells.zipIdx.foldl (fun (cs:Array Value) (x:Value×Nat)=>match x with | (c,j)=>cs.setIfInBounds (i*z+j) c) arr)=arr2:=harr
      rw [harr'];exact hf
     ·rw [hl,key]
      have:(i+1)*z=(arr.toList.take (i*z)).length+c.length:=by rw [hlen,hcl,Nat.succ_mul]
      rw [this,List.take_append]
      simp only [List.take_of_length_le (show (arr.toList.take (i*z)).length≤(arr.toList.take (i*z)).length+c.length by omega),Nat.add_sub_cancel_left]
      rw [List.take_append]
      simp
section
variable {P : Program} {L : Lk} {α : Type} {ρ : Operand → Option Value} {o : Oper} {st : SS}
theorem zcP {fields:Array Field}:∀ (fs:List Field),(fs.all fun f=>(L.size f.type).isSome)=true→∃ pl,(fs.mapM fun f=>(L.info f.type).map fun i=>(f.offset,i.size))=some pl∧pl.length=fs.length∧
  ∀ (j:Nat) f,fs[j]?=some f→pl[j]?=(L.size f.type).map fun z=>(f.offset,z)
 | [],_=>⟨[],rfl,rfl,fun j f h=>by simp at h⟩
 | f::fs,h=>by
   simp only [List.all_cons,zae] at h
   obtain ⟨pl,h1,h2,h3⟩:=zcP (fields:=fields) fs h.2
   obtain ⟨z,hz⟩:=Option.isSome_iff_exists.1 h.1
   obtain ⟨ti,hti,hzz⟩:=zaw hz
   refine ⟨(f.offset,ti.size)::pl,by simp [hti,h1],by simp [h2],fun j g hg=>?_⟩
   cases j with
   | zero=>simp at hg;subst hg;simp [hz,hzz]
   | succ j=>simpa using h3 j g (by simpa using hg)
theorem zfs {t:TypeId} {parts:Array (Nat×Operand)} {i:TypeInfo} {zero:Value} {fields:Array Field} {K:Value→SS→Option α} {r:α} (ho:o.op=.build t parts) (hi:L.info t=some i) (hz:i.zero=some zero) (hf:zaf zero=true)
  (hu:L.und t=some (.struct fields)) (hall:(fields.toList.all fun f=>(L.size f.type).isSome&&Nat.ble (f.offset+(L.size f.type).getD 0) zero.cells.size)=true)
  (h:zcE ρ (zd1 L fields) parts.toList zero.cells.toList (fun l=>K (.agg ⟨l⟩) st)=some r):∃ v,K v st=some r∧OpR P L o ρ st v st:=by
 obtain ⟨pl,hpl,hlen,hget⟩:=zcP (L:=L) (fields:=fields) fields.toList (List.all_eq_true.2 fun f hm=>by
  have:=List.all_eq_true.1 hall f hm
  simp only [zae] at this
  exact this.1)
 have places:∀ j os,zd1 L fields j=some os→pl.toArray[j]?=some os∧os.1+os.2≤zero.cells.toList.length:=fun j os hj=>by
  unfold zd1 at hj
  simp only [zbi,zsj] at hj
  obtain ⟨f,hfj,z,hz',rfl⟩:=hj
  have hm:fields.toList[j]?=some f:=by simpa using hfj
  refine ⟨by have:=hget j f hm;rw [hz'] at this;simpa using this,?_⟩
  have:=List.all_eq_true.1 hall f (zmg hm)
  simp only [zae,Nat.ble_eq,hz',Option.getD_some] at this
  simpa using this.2
 obtain ⟨vs,hvs,arr',hfill,hK⟩:=zcU (place:=(pl.toArray[·]?)) parts.toList zero.cells.toList zero.cells rfl places h
 refine ⟨_,hK,.pure fun ρ' hρ=>?_⟩
 have hvs:=zcn hρ _ _ hvs
 unfold zad
 simp only [ho,hvs,zob]
 unfold zdD
 simp only [hi,hz,zob,hf,zct,hu,hpl,hfill,Option.map_some]
theorem zfN {t n e z:Nat} {parts:Array (Nat×Operand)} {i:TypeInfo} {zero:Value} {K:Value→SS→Option α} {r:α} (ho:o.op=.build t parts) (hi:L.info t=some i) (hz:i.zero=some zero) (hf:zaf zero=true)
  (hu:L.und t=some (.array n e)) (hsz:L.size e=some z)
  (h:zcE ρ (fun i=>cond (Nat.ble (i*z+z) zero.cells.size) (some (i*z,z)) none) parts.toList zero.cells.toList (fun l=>K (.agg ⟨l⟩) st)=some r):∃ v,K v st=some r∧OpR P L o ρ st v st:=by
 obtain ⟨ti,hti,hzz⟩:=zaw hsz
 subst hzz
 have places:∀ j os,(fun i=>cond (Nat.ble (i*ti.size+ti.size) zero.cells.size) (some (i*ti.size,ti.size)) none) j=some os→(fun i=>some (i*ti.size,ti.size)) j=some os∧os.1+os.2≤zero.cells.toList.length:=fun j os hj=>by
  simp only at hj
  cases hb:Nat.ble (j*ti.size+ti.size) zero.cells.size with
  | false=>rw [hb] at hj;cases hj
  | true=>
    rw [hb] at hj;cases hj
    exact ⟨rfl,by simpa using hb⟩
 obtain ⟨vs,hvs,arr',hfill,hK⟩:=zcU (place:=fun i=>some (i*ti.size,ti.size)) parts.toList zero.cells.toList zero.cells rfl places h
 refine ⟨_,hK,.pure fun ρ' hρ=>?_⟩
 have hvs:=zcn hρ _ _ hvs
 unfold zad
 simp only [ho,hvs,zob]
 unfold zdD
 simp only [hi,hz,zob,hf,zct,hu,hti,hfill,Option.map_some]
theorem zgb {t len e:Nat} {parts:Array (Nat×Operand)} {i:TypeInfo} {zero:Value} {K:Value→SS→Option α} {r:α} (ho:o.op=.buildSlice t len parts) (hu:L.und t=some (.slice e)) (hi:L.info e=some i) (hz:i.zero=some zero)
  (hc:(zaf zero&&Nat.ble (len*i.size) (2^24)&&Nat.beq zero.cells.size i.size&&Nat.blt 0 i.size&&Nat.beq parts.size len)=true)
  (h:zdR ρ i.size parts.toList 0 (fun l=>K (.slice (some ⟨st.next,0,none⟩) len len) (st.new (.cells l i.size)))=some r):∃ v st',K v st'=some r∧OpR P L o ρ st v st':=by
 simp only [zae] at hc
 obtain ⟨⟨⟨⟨c1,c2⟩,c3⟩,c4⟩,c5⟩:=hc
 have hlen:=beq_true c5
 obtain ⟨vs,hvs,arr',l,hfill,hl,hK⟩:=zek parts.toList 0 _ ((Array.range (len*i.size)).map (zero.cells[·%zero.cells.size]!)) (by simp [hlen]) h
 refine ⟨_,_,hK,?_⟩
 have e:arr'.toList=l:=by rw [hl];simp
 refine .alloc (o:=o) (ob:=.cells l i.size) fun ρ' hρ=>⟨by unfold zad;simp only [ho],(fun n=>.slice (some ⟨n,0,none⟩) len len),?_,rfl⟩
 have hvs:=zcn hρ _ _ hvs
 unfold zak
 simp only [ho,hvs,zob,hu,hi,hz,c1,c2,c3,c4,Bool.and_self,zct,hfill,Option.map_some,e]
theorem zgu {t e:Nat} {len cap:Operand} {vl vc:Value} {l c:Int} {i:TypeInfo} {zero:Value} (ho:o.op=.makeSlice t len cap) (hl:ρ len=some vl) (hl':asN vl=some l) (hc:ρ cap=some vc) (hc':asN vc=some c)
  (hu:L.und t=some (.slice e)) (hi:L.info e=some i) (hz:i.zero=some zero) (hck:(zaf zero&&Nat.beq zero.cells.size i.size&&Nat.blt 0 i.size)=true) (hm:zg2 l c i.bytes=some ()):
  OpR P L o ρ st (.slice (some ⟨st.next,0,none⟩) l.toNat c.toNat) (st.new (.cells (zf7 zero.cells.toList c) i.size)):=by
 simp only [zae] at hck
 obtain ⟨⟨c1,c2⟩,c3⟩:=hck
 unfold zg2 at hm
 cases hb:(decide (0≤l)&&decide (l≤c)&&decide (c≤1099511627776)&&decide (c*(i.bytes:Int)≤70368744177664)) with
 | false=>rw [hb] at hm;cases hm
 | true=>
   simp only [zae,decide_eq_true_eq] at hb
   obtain ⟨kl,rfl⟩:=zbf hl'
   obtain ⟨kc,rfl⟩:=zbf hc'
   refine .alloc fun ρ' hρ=>⟨by unfold zad;simp only [ho],(fun n=>.slice (some ⟨n,0,none⟩) l.toNat c.toNat),?_,rfl⟩
   unfold zak
   have h0:0≤c:=by omega
   have q1:Nat.ble l.toNat c.toNat=true:=by rw [Nat.ble_eq];omega
   have q2:Nat.ble c.toNat (2^40)=true:=by rw [Nat.ble_eq];have:(2:Nat)^40=1099511627776:=by decide
                                           omega
   have q3:Nat.ble (c.toNat*i.bytes) (2^46)=true:=by
    rw [Nat.ble_eq]
    have e1:(2:Nat)^46=70368744177664:=by decide
    have e2:((c.toNat*i.bytes:Nat):Int)=c*i.bytes:=by rw [Int.natCast_mul,Int.toNat_of_nonneg h0]
    omega
   simp only [ho,hρ _ _ hl,hρ _ _ hc,zob,asNat?,if_pos hb.1.1.1,if_pos h0,hu,hi,hz,c1,q1,q2,q3,c2,c3,Bool.and_self,zct,zf7]
   have ez:=beq_true c2
   rw [Array.length_toList,ez]
theorem zh9 [Sym] (hL:L.Ok P) {args:Array Operand} {ats:Array TypeId} {t:TypeId} {s:ByteArray} (ho:o.op=.call { callee:=.builtin .len,args,argTypes:=ats }) (hx:args.toList.mapM ρ=some [.string s]) (ht:ats.toList=[t])
  (hu:L.und t=some .string):OpR P L o ρ st (.int .i64 (s.size:Int)) st:=by
 refine .pure fun ρ' hρ=>?_
 have ht0:ats[0]?=some t:=by rw [← Array.getElem?_toList,ht];rfl
 unfold zad
 simp only [ho,mapM_mono hρ _ _ hx,zob,zaf,zaz,zct]
 have:zaa P (builtin .len ats o.type (args.map fun | .const _=>true | _=>false) #[.string s])=some (.value (goInt s.size)):=by
  show zaa P (do Pure.pure (Next.value (← Builtin.len_ ats o.type #[.string s])))=_
  rw [zab]
  have:zaa P (Builtin.len_ ats o.type #[.string s])=some (goInt s.size):=by
   unfold Builtin.len_
   simp only [ht0,List.getElem?_toArray,zgz,zab,zan (hL.und _ _ hu),zob]
   rfl
  rw [this];rfl
 exact zbi.2 ⟨_,this,rfl⟩
theorem ziA {args:Array Operand} {ats:Array TypeId} {t e:TypeId} {a v:Value} (ho:o.op=.call { callee:=.builtin .len,args,argTypes:=ats }) (hx:args.toList.mapM ρ=some [a]) (ht:ats.toList=[t])
  (hu:L.und t=some (.slice e)) (h:lenV a=some v):OpR P L o ρ st v st:=by
 refine .pure fun ρ' hρ=>?_
 have ht0:ats[0]?=some t:=by rw [← Array.getElem?_toList,ht];rfl
 unfold lenV at h
 split at h
 ·cases h
  unfold zad
  simp only [ho,mapM_mono hρ _ _ hx,zob,ht0,hu]
  rfl
 ·cases h
theorem s_min {args:Array Operand} {ats:Array TypeId} {k k':IntKind} {x y:Int} (ho:o.op=.call { callee:=.builtin .min,args,argTypes:=ats }) (hx:args.toList.mapM ρ=some [.int k x,.int k' y]) (hk:Nat.beq (kn k) (kn k')=true):
  OpR P L o ρ st (.int k (if y<x then y else x)) st:=by
 refine .pure fun ρ' hρ=>?_
 have:=zeR hk;subst this
 unfold zad
 simp only [ho,mapM_mono hρ _ _ hx,zob,if_true]
theorem s_max {args:Array Operand} {ats:Array TypeId} {k k':IntKind} {x y:Int} (ho:o.op=.call { callee:=.builtin .max,args,argTypes:=ats }) (hx:args.toList.mapM ρ=some [.int k x,.int k' y]) (hk:Nat.beq (kn k) (kn k')=true):
  OpR P L o ρ st (.int k (if y>x then y else x)) st:=by
 refine .pure fun ρ' hρ=>?_
 have:=zeR hk;subst this
 unfold zad
 simp only [ho,mapM_mono hρ _ _ hx,zob,if_true]
theorem zia {t kt et:TypeId} {x ix:Operand} {ok:Bool} {a:Value} {k:ByteArray} {inf:TypeInfo} {zero:Value} {q:Option Value} (ho:o.op=.lookup t x ix ok) (hx:ρ x=some a) (hi:ρ ix=some (.string k)) (hu:L.und t=some (.map kt et))
  (hk:L.und kt=some .string) (hinf:L.info et=some inf) (hz:inf.zero=some zero) (hf:zaf zero=true) (h:st.mapF a k=some q):
  OpR P L o ρ st (optE q (cond ok (.tuple #[zero,.bool false]) zero) (fun v=>cond ok (.tuple #[v,.bool true]) v)) st:=by
 unfold SS.mapF at h
 split at h
 ·rename_i i
  simp only [zbi] at h
  obtain ⟨ob,hob,h⟩:=h
  split at h
  ·rename_i l
   cases h
   refine .read (by rw [ho];rfl) fun ρ' hρ=>⟨by unfold zad;simp only [ho],by unfold zak;simp only [ho],i,(fun ob=>match ob with
    | .map l=>match zbF k l with
      | some v=>some (cond ok (.tuple #[v,.bool true]) v)
      | none=>some (cond ok (.tuple #[zero,.bool false]) zero)
    | _=>none),_,?_,hob,?_⟩
   ·unfold zav
    simp only [ho,hρ _ _ hx,hρ _ _ hi,zob,hu,hk,hinf,hz,hf,zct]
    rfl
   ·simp only
    cases zbF k l<;>rfl
  ·cases h
 ·cases h
theorem zft {i k:Nat} {vs:List Value} {st st':SS} (h:st.st i k vs=some st'):st'.lim=st.lim∧∀ base log,∃ log',za4 (st.toE base log) i k vs=some (st'.toE base log')∧zaG st.lim base log log':=by
 unfold SS.st at h
 cases hb:Nat.ble st.lim i with
 | false=>rw [hb] at h;cases h
 | true=>
   rw [hb] at h
   simp only [zct,zbi] at h
   obtain ⟨ob,hob,h⟩:=h
   cases ob<;>simp only [reduceCtorEq] at h
   rename_i c z
   cases ha:vs.all one with
   | false=>rw [ha] at h;cases h
   | true=>
     rw [ha] at h
     simp only [zct,zmi] at h
     obtain ⟨c',hc',rfl⟩:=h
     refine ⟨rfl,fun base log=>⟨(st.toE base log).note i,?_,zd3 (Nat.le_of_ble_eq_true hb)⟩⟩
     unfold za4
     have hob':(st.toE base log).mem.get i=some (.cells c z):=hob
     rw [hob']
     simp only [ha,zct,hc',Option.map_some]
     rfl
theorem ziB {t n i k:Nat} {a x:Operand} {va v:Value} {st':SS} (ho:o.op=.store t a x) (ha:ρ a=some va) (hx:ρ x=some v) (hp:addr? va=some (i,k)) (hn:L.size t=some n) (h:st.stV i k n v=some st'):OpR P L o ρ st undef st':=by
 unfold SS.stV at h
 cases hb:Nat.beq v.cells.size n with
 | false=>rw [hb] at h;cases h
 | true=>
   rw [hb] at h
   obtain ⟨h1,h2⟩:=zft h
   refine .gen (by rw [ho];rfl) (by rw [ho];rfl) h1 ⟨0,fun m _ base log ρ' hρ=>⟨by unfold zad;simp only [ho],by unfold zak;simp only [ho],by unfold zav;simp only [ho],?_⟩⟩
   obtain ⟨log',e1,e2⟩:=h2 base log
   refine ⟨log',?_,e2⟩
   unfold zay
   simp only [ho,hρ _ _ ha,hρ _ _ hx,zob,hp,hn,hb,zct,e1,Option.map_some]
theorem s_next {it:Operand} {va:Value} {i k:Nat} {s:ByteArray} {p:Nat} {K:Value→SS→Option α} {r:α} (ho:o.op=.next it true) (ha:ρ it=some va) (hp:addr? va=some (i,k)) (hk:Nat.beq k 0=true) (hg:st.iterG i=some (s,p)) (hl:Nat.ble st.lim i=true)
  (h:cond (decide (p<s.size)) (K (.tuple #[.bool true,.int .i64 (p:Int),.int .i32 ((Utf8.decode s p).1:Int)]) (st.set i (some (.iter s (p+(Utf8.decode s p).2))))) (K (.tuple #[.bool false]) st)=some r):
  ∃ v st',K v st'=some r∧OpR P L o ρ st v st':=by
 have hk0:=beq_true hk
 subst hk0
 unfold SS.iterG at hg
 simp only [zbi] at hg
 obtain ⟨ob,hob,hg⟩:=hg
 cases ob<;>simp only [reduceCtorEq,zsj,zpj] at hg
 obtain ⟨rfl,rfl⟩:=hg
 rename_i s p
 have hle:=Nat.le_of_ble_eq_true hl
 cases hb:decide (p<s.size) with
 | true=>
   rw [hb] at h
   refine ⟨_,_,h,.gen (by rw [ho];rfl) (by rw [ho];rfl) rfl ⟨0,fun m _ base log ρ' hρ=>⟨by unfold zad;simp only [ho],by unfold zak;simp only [ho],by unfold zav;simp only [ho],(st.toE base log).note i,?_,zd3 hle⟩⟩⟩
   have hlt:Nat.blt p s.size=true:=by rw [Nat.blt_eq];exact of_decide_eq_true hb
   have hob':(st.toE base log).mem.get i=some (.iter s p):=hob
   unfold zay
   simp only [ho,hρ _ _ ha,zob,hp,hob',hlt,zct]
   rfl
 | false=>
   rw [hb] at h
   refine ⟨_,_,h,.gen (by rw [ho];rfl) (by rw [ho];rfl) rfl ⟨0,fun m _ base log ρ' hρ=>⟨by unfold zad;simp only [ho],by unfold zak;simp only [ho],by unfold zav;simp only [ho],log,?_,.refl _ _ _⟩⟩⟩
   have hlt:Nat.blt p s.size=false:=by rw [← Bool.not_eq_true,Nat.blt_eq];exact of_decide_eq_false hb
   have hob':(st.toE base log).mem.get i=some (.iter s p):=hob
   unfold zay
   simp only [ho,hρ _ _ ha,zob,hp,hob',hlt,zcf]
theorem zgv {t kt et:TypeId} {m k x:Operand} {vm v:Value} {key:ByteArray} {st':SS} (ho:o.op=.mapUpdate t m k x) (hm:ρ m=some vm) (hk:ρ k=some (.string key)) (hx:ρ x=some v) (hu:L.und t=some (.map kt et)) (hkt:L.und kt=some .string)
  (h:st.mapP vm key v=some st'):OpR P L o ρ st undef st':=by
 unfold SS.mapP at h
 split at h
 ·rename_i i
  cases hb:Nat.ble st.lim i with
  | false=>rw [hb] at h;cases h
  | true=>
    rw [hb] at h
    simp only [zct,zbi] at h
    obtain ⟨ob,hob,h⟩:=h
    cases ob<;>simp only [reduceCtorEq,zsj] at h
    subst h
    rename_i l
    refine .gen (by rw [ho];rfl) (by rw [ho];rfl) rfl ⟨0,fun _ _ base log ρ' hρ=>⟨by unfold zad;simp only [ho],by unfold zak;simp only [ho],by unfold zav;simp only [ho],(st.toE base log).note i,?_,zd3 (Nat.le_of_ble_eq_true hb)⟩⟩
    have hob':(st.toE base log).mem.get i=some (.map l):=hob
    unfold zay
    simp only [ho,hρ _ _ hm,hρ _ _ hk,hρ _ _ hx,zob,hu,hkt,hob']
    rfl
 ·cases h
theorem s_call {f:Operand} {args:Array Operand} {ats:Array TypeId} {g:FuncId} {xs ys:Array Value} {vs:List Value} {v:Value} {st':SS} (ho:o.op=.call { callee:=.value f,args,argTypes:=ats }) (hf:ρ f=some (.func (.func g) xs ys))
  (hx:args.toList.mapM ρ=some vs) (h:zd4 P L g (xs.toList++vs++ys.toList) st v st'):OpR P L o ρ st v st':=by
 obtain ⟨h1,n,h2⟩:=h
 refine .gen (by rw [ho];rfl) (by rw [ho];rfl) h1 ⟨n,fun m hm base log ρ' hρ=>⟨by unfold zad;simp only [ho],by unfold zak;simp only [ho],by unfold zav;simp only [ho],?_⟩⟩
 obtain ⟨log',e1,e2⟩:=h2 m hm base log
 refine ⟨log',?_,e2⟩
 unfold zay
 simp only [ho,hρ _ _ hf,zob,mapM_mono hρ _ _ hx]
 exact e1
theorem zfu {base:Nat} {log:List Nat} {sz n:Nat} {x:Value}:za5 (st.toE base log) sz n x=st.first sz n x:=by
 unfold za5 SS.first
 cases x<;>try rfl
 rename_i a l c
 cases a with
 | none=>rfl
 | some a=>
   obtain ⟨i,k,sp⟩:=a
   cases sp with
   | some _=>rfl
   | none=>
     show (match st.mem.get i with | some (.cells c _)=>cut c k (n*sz) | _=>none)=(st.mem.get i).bind (fun ob=>match ob with | .cells c _=>cut c k (n*sz) | _=>none)
     cases st.mem.get i with
     | none=>rfl
     | some ob=>cases ob<;>rfl
theorem zib {args:Array Operand} {ats:Array TypeId} {s x v:Value} {t xt e:TypeId} {d:TypeDesc} {i:TypeInfo} {zero:Value} {st':SS} (ho:o.op=.call { callee:=.builtin .append,args,argTypes:=ats }) (hx:args.toList.mapM ρ=some [s,x]) (ht:ats.toList=[t,xt])
  (hu:L.und t=some (.slice e)) (hxt:L.und xt=some d) (hd:∀ k,d≠.int k) (hi:L.info e=some i) (hz:i.zero=some zero) (hc:(Nat.blt 0 i.bytes&&Nat.blt 0 i.size&&Nat.beq zero.cells.size i.size&&zaf zero)=true)
  (h:st.app i.size i.bytes s x=some (v,st')):OpR P L o ρ st v st':=by
 simp only [zae] at hc
 obtain ⟨⟨⟨c1,c2⟩,c3⟩,c4⟩:=hc
 have key:st'.lim=st.lim∧∀ base log,∃ log',za6 L (st.toE base log) t xt s x=some (v,st'.toE base log')∧zaG st.lim base log log':=by
  have unf:∀ base log,za6 L (st.toE base log) t xt s x=(zbI x).bind fun n=>match s with
   | .slice none 0 0=>
     cond (Nat.beq n 0) (some (s,st.toE base log))
      (cond (Nat.ble ((n+1)*i.bytes) (2^44)&&Nat.ble n (2^44)&&Nat.blt 0 i.bytes&&Nat.blt 0 i.size&&Nat.beq zero.cells.size i.size&&zaf zero)
       ((za5 (st.toE base log) i.size n x).bind fun new=>some (.slice (some ⟨st.next,0,none⟩) n n,(st.toE base log).new (.cells new i.size))) none)
   | .slice (some ⟨j,k,none⟩) len cap=>
     cond (Nat.beq n 0) (some (s,st.toE base log))
      (cond (Nat.ble ((len+n+1)*i.bytes) (2^44)&&Nat.ble (len+n) (2^44)&&Nat.blt 0 i.bytes&&Nat.blt 0 i.size&&Nat.beq zero.cells.size i.size&&zaf zero)
       (match (st.toE base log).mem.get j with
       | some (.cells c z)=>
         cond (Nat.beq z i.size&&(Nat.blt cap (len+n)||Nat.ble (k+cap*i.size) c.length))
          ((cut c k (len*i.size)).bind fun old=>(za5 (st.toE base log) i.size n x).bind fun new=>
            cond (new.all one) (some (.slice (some ⟨st.next,0,none⟩) (len+n) (len+n),((st.toE base log).write j none).new (.cells (old++new) i.size))) none) none
       | _=>none) none)
   | _=>none:=fun base log=>by
   unfold za6
   rw [hu,hxt]
   cases d<;>first | exact absurd rfl (hd _) | (simp only [hi,hz,zob];rfl)
  unfold SS.app at h
  simp only [zbi] at h
  obtain ⟨n,hn,h⟩:=h
  split at h
  ·cases hb:Nat.beq n 0 with
   | true=>
     rw [hb] at h;cases h
     exact ⟨rfl,fun base log=>⟨log,by rw [unf,hn];simp only [zob,hb,zct],.refl _ _ _⟩⟩
   | false=>
     rw [hb] at h
     simp only [zcf] at h
     cases hq:(Nat.ble ((n+1)*i.bytes) (2^44)&&Nat.ble n (2^44)) with
     | false=>rw [hq] at h;cases h
     | true=>
       rw [hq] at h
       simp only [zct,zbi,zsj,zpj] at h
       obtain ⟨new,hnew,rfl,rfl⟩:=h
       refine ⟨rfl,fun base log=>⟨log,?_,.refl _ _ _⟩⟩
       rw [unf,hn]
       simp only [zob,hb,zcf,hq,c1,c2,c3,c4,Bool.and_self,zct,zfu,hnew]
       rfl
  ·rename_i j k len cap
   cases hb:Nat.beq n 0 with
   | true=>
     rw [hb] at h;cases h
     exact ⟨rfl,fun base log=>⟨log,by rw [unf,hn];simp only [zob,hb,zct],.refl _ _ _⟩⟩
   | false=>
     rw [hb] at h
     simp only [zcf] at h
     cases hq:(Nat.ble ((len+n+1)*i.bytes) (2^44)&&Nat.ble (len+n) (2^44)&&Nat.ble st.lim j) with
     | false=>rw [hq] at h;cases h
     | true=>
       rw [hq] at h
       simp only [zct,zbi] at h
       obtain ⟨ob,hob,h⟩:=h
       cases ob<;>simp only [reduceCtorEq] at h
       rename_i c z
       cases hw:(Nat.beq z i.size&&(Nat.blt cap (len+n)||Nat.ble (k+cap*i.size) c.length)) with
       | false=>rw [hw] at h;cases h
       | true=>
         rw [hw] at h
         simp only [zct,zbi] at h
         obtain ⟨old,hold,new,hnew,h⟩:=h
         cases ha:new.all one with
         | false=>rw [ha] at h;cases h
         | true=>
           rw [ha] at h
           simp only [zct,zsj,zpj] at h
           obtain ⟨rfl,rfl⟩:=h
           simp only [zae] at hq
           refine ⟨rfl,fun base log=>⟨(st.toE base log).note j,?_,zd3 (Nat.le_of_ble_eq_true hq.2)⟩⟩
           have hob':(st.toE base log).mem.get j=some (.cells c z):=hob
           rw [unf,hn]
           simp only [zob,hb,zcf,hq.1.1,hq.1.2,c1,c2,c3,c4,Bool.and_self,zct,hob',hw,hold,zfu,hnew,ha]
           rfl
  ·cases h
 obtain ⟨h1,h2⟩:=key
 refine .gen (by rw [ho];rfl) (by rw [ho];rfl) h1 ⟨0,fun m _ base log ρ' hρ=>⟨by unfold zad;simp only [ho,mapM_mono hρ _ _ hx,zob],by unfold zak;simp only [ho],by unfold zav;simp only [ho],?_⟩⟩
 obtain ⟨log',e1,e2⟩:=h2 base log
 refine ⟨log',?_,e2⟩
 unfold zay
 simp only [ho,mapM_mono hρ _ _ hx,zob,ht]
 exact e1
theorem s_copy {args:Array Operand} {ats:Array TypeId} {d x v:Value} {t xt e sz:TypeId} {st':SS} (ho:o.op=.call { callee:=.builtin .copy,args,argTypes:=ats }) (hx:args.toList.mapM ρ=some [d,x]) (ht:ats.toList=[t,xt])
  (hu:L.und t=some (.slice e)) (hi:L.size e=some sz) (h:st.cpy sz d x=some (v,st')):OpR P L o ρ st v st':=by
 have key:st'.lim=st.lim∧∀ base log,∃ log',zay L (fun _ _ _=>none) (fun x=>ρ x) o (st.toE base log)=some (v,st'.toE base log')∧zaG st.lim base log log':=by
  unfold SS.cpy at h
  simp only [zbi] at h
  obtain ⟨n,hn,h⟩:=h
  split at h
  ·rename_i i k len cap
   simp only [zbi,zmi,zpj] at h
   obtain ⟨new,hnew,s1,hs1,rfl,rfl⟩:=h
   obtain ⟨h1,h2⟩:=zft hs1
   refine ⟨h1,fun base log=>?_⟩
   obtain ⟨log',e1,e2⟩:=h2 base log
   refine ⟨log',?_,e2⟩
   unfold zay
   simp only [ho,hx,zob,ht,hu,hi,hn,zfu,hnew,e1,Option.map_some]
   rfl
  ·cases h
   refine ⟨rfl,fun base log=>⟨log,?_,.refl _ _ _⟩⟩
   unfold zay
   simp only [ho,hx,zob,ht,hu,hi,hn]
   rfl
  ·cases h
 obtain ⟨h1,h2⟩:=key
 refine .gen (by rw [ho];rfl) (by rw [ho];rfl) h1 ⟨0,fun m _ base log ρ' hρ=>⟨by unfold zad;simp only [ho,mapM_mono hρ _ _ hx,zob],by unfold zak;simp only [ho],by unfold zav;simp only [ho],?_⟩⟩
 obtain ⟨log',e1,e2⟩:=h2 base log
 refine ⟨log',?_,e2⟩
 rw [← e1]
 unfold zay
 simp only [ho,mapM_mono hρ _ _ hx,hx,zob,ht]
theorem ziC {args:Array Operand} {ats:Array TypeId} {x zero:Value} {t e:TypeId} {inf:TypeInfo} {st':SS} (ho:o.op=.call { callee:=.builtin .clear,args,argTypes:=ats }) (hx:args.toList.mapM ρ=some [x]) (ht:ats.toList=[t])
  (hu:L.und t=some (.slice e)) (hi:L.info e=some inf) (hz:inf.zero=some zero) (hf:zaf zero=true) (h:st.clr zero.cells.toList x=some st'):OpR P L o ρ st (.tuple #[]) st':=by
 have key:st'.lim=st.lim∧∀ base log,∃ log',zay L (fun _ _ _=>none) (fun x=>ρ x) o (st.toE base log)=some (.tuple #[],st'.toE base log')∧zaG st.lim base log log':=by
  unfold SS.clr at h
  split at h
  ·cases h
   refine ⟨rfl,fun base log=>⟨log,?_,.refl _ _ _⟩⟩
   unfold zay
   simp only [ho,hx,zob,ht,hu]
  ·cases h
   refine ⟨rfl,fun base log=>⟨log,?_,.refl _ _ _⟩⟩
   unfold zay
   simp only [ho,hx,zob,ht,hu]
  ·rename_i i k n cap hne
   obtain ⟨h1,h2⟩:=zft h
   refine ⟨h1,fun base log=>?_⟩
   obtain ⟨log',e1,e2⟩:=h2 base log
   refine ⟨log',?_,e2⟩
   unfold zay
   simp only [ho,hx,zob,ht,hu]
   cases n with
   | zero=>exact absurd rfl (hne)
   | succ n=>
     simp only [hi,hz,zob,hf,zct]
     have:zero.cells.toList.toArray=zero.cells:=by simp
     rw [this] at e1
     rw [e1];rfl
  ·cases h
 obtain ⟨h1,h2⟩:=key
 refine .gen (by rw [ho];rfl) (by rw [ho];rfl) h1 ⟨0,fun m _ base log ρ' hρ=>⟨by unfold zad;simp only [ho,mapM_mono hρ _ _ hx,zob],by unfold zak;simp only [ho],by unfold zav;simp only [ho],?_⟩⟩
 obtain ⟨log',e1,e2⟩:=h2 base log
 refine ⟨log',?_,e2⟩
 rw [← e1]
 unfold zay
 simp only [ho,mapM_mono hρ _ _ hx,hx,zob,ht]
end
section
variable {P : Program} {L : Lk} {α : Type} {ρ : Operand → Option Value} {o : Oper} {st : SS}
theorem zaj {α:Type} {b:Bool} {x:Option α} {r:α} (h:cond b x none=some r):b=true∧x=some r:=by
 cases b with
 | true=>exact ⟨rfl,h⟩
 | false=>cases h
theorem zhb {α:Type} {b:Bool} {x:Option α} {r:α} (h:cond b none x=some r):b=false∧x=some r:=by
 cases b with
 | false=>exact ⟨rfl,h⟩
 | true=>cases h
theorem zdT [Sym] (hL:L.Ok P) (hS:LkS L) (hc:∀ c v,ρ (.const c)=some v→v=c) {K:Value→SS→Option α} {r:α} (h:opS P L (cS P L) ρ o st K=some r):
  ∃ v st',K v st'=some r∧OpR P L o ρ st v st':=by
 unfold opS at h
 split at h
 ·rename_i x ho
  simp only [zbi] at h
  obtain ⟨v,hv,h⟩:=h
  exact ⟨v,st,h,zhH (.inl ho) hv⟩
 ·rename_i x ho
  simp only [zbi] at h
  obtain ⟨v,hv,h⟩:=h
  exact ⟨v,st,h,zhH (.inr ho) hv⟩
 ·rename_i c a b ho
  simp only [zbi] at h
  obtain ⟨vc,hvc,b',hb,h⟩:=h
  cases b' with
  | true=>
    simp only [zct,zbi] at h
    obtain ⟨v,hv,h⟩:=h
    exact ⟨v,st,h,zhI ho hvc hb hv⟩
  | false=>
    simp only [zcf,zbi] at h
    obtain ⟨v,hv,h⟩:=h
    exact ⟨v,st,h,zhI ho hvc hb hv⟩
 ·rename_i x ho
  simp only [zbi] at h
  obtain ⟨u,hu,v,hv,h⟩:=h
  exact ⟨v,st,h,zg5 ho hu hv⟩
 ·rename_i op t x y yt ho
  simp only [zbi] at h
  obtain ⟨a,ha,b,hb,h⟩:=h
  obtain ⟨v,hv,h⟩:=zaB h
  exact ⟨v,st,h,zhG hL hS ho hc ha hb hv⟩
 ·rename_i op t x ho
  obtain ⟨v,hv,h⟩:=zaB h
  exact ⟨v,st,h,s_unOp ho hv⟩
 ·rename_i s d x ho
  split at h
  ·rename_i e hs hd
   split at h
   ·rename_i he
    simp only [zbi] at h
    obtain ⟨v,hv,s',hs',h⟩:=h
    exact ⟨_,st,h,ziy hL ho hs hd he hv hs'⟩
   ·cases h
  ·rename_i e hs hd
   unfold zcH at h
   simp only [zbi] at h
   obtain ⟨⟨ob,vf⟩,ha,h⟩:=h
   exact ⟨_,_,h,zhN hL ho hs hd ha⟩
  ·rename_i k1 k hs hd
   obtain ⟨v,hv,h⟩:=zaB h
   exact ⟨v,st,h,zhJ ho hv⟩
  ·cases h
 ·rename_i t x lo hi ho
  split at h
  ·rename_i hu
   simp only [zbi] at h
   obtain ⟨v,hv,s,hs,l,hl,hh,hhi,r',hr,h⟩:=h
   have:=zaO hs;subst this
   exact ⟨_,st,h,zg7 ho hu hv hl hhi hr⟩
  ·rename_i e hu
   simp only [zbi] at h
   obtain ⟨z,hz,v,hv,l,hl,hh,hhi,r',hr,h⟩:=h
   refine ⟨_,st,h,zhK (h:=hh) ho hu hz hv hl ?_ hr⟩
   cases hi<;>exact hhi
  ·rename_i n e hu
   simp only [zbi] at h
   obtain ⟨z,hz,v,hv,⟨i,k⟩,hp,l,hl,hh,hhi,r',hr,h⟩:=h
   exact ⟨_,st,h,zg8 ho hu hz hv hp hl hhi hr⟩
  ·cases h
 ·rename_i s x f ho
  simp only [zbi] at h
  obtain ⟨a,ha,⟨i,k⟩,hp,h⟩:=h
  split at h
  ·rename_i fields hu
   simp only [zbi] at h
   obtain ⟨fd,hfd,z,hz,h⟩:=h
   obtain ⟨hz0,h⟩:=zhb h
   exact ⟨_,st,h,zgr ho ha hp hu hfd hz hz0⟩
  ·cases h
 ·rename_i t x ix ho
  simp only [zbi] at h
  obtain ⟨a,ha,v,hv,n,hn,h⟩:=h
  split at h
  ·rename_i len e hu
   simp only [zbi] at h
   obtain ⟨z,hz,⟨i,k⟩,hp,h⟩:=h
   exact ⟨_,st,h,zg9 ho ha hv hn hu hz hp⟩
  ·rename_i e hu
   simp only [zbi] at h
   obtain ⟨z,hz,⟨i,k⟩,hp,h⟩:=h
   exact ⟨_,st,h,zhL ho ha hv hn hu hz hp⟩
  ·cases h
 ·rename_i t x f ho
  simp only [zbi] at h
  obtain ⟨a,ha,h⟩:=h
  obtain ⟨v,hv,h⟩:=zaB h
  exact ⟨v,st,h,zix ho ha hv⟩
 ·rename_i t x ix ho
  simp only [zbi] at h
  obtain ⟨a,ha,v,hv,n,hn,h⟩:=h
  split at h
  ·rename_i hu
   simp only [zbi] at h
   obtain ⟨s,hs,h⟩:=h
   have:=zaO hs;subst this
   obtain ⟨u,hu',h⟩:=zaB h
   exact ⟨u,st,h,zha ho ha hv hn hu hu'⟩
  ·rename_i len e hu
   obtain ⟨u,hu',h⟩:=zaB h
   exact ⟨u,st,h,zgt ho ha hv hn hu hu'⟩
  ·cases h
 ·rename_i t ix ho
  simp only [zbi] at h
  obtain ⟨a,ha,h⟩:=h
  obtain ⟨v,hv,h⟩:=zaB h
  exact ⟨v,st,h,zhM ho ha hv⟩
 ·rename_i t a ho
  simp only [zbi] at h
  obtain ⟨va,ha,⟨i,k⟩,hp,h⟩:=h
  obtain ⟨v,hv,h⟩:=zaB h
  exact ⟨v,st,h,s_load ho ha hp hv⟩
 ·rename_i t a x ho
  simp only [zbi] at h
  obtain ⟨va,ha,v,hv,⟨i,k⟩,hp,n,hn,st',hst,h⟩:=h
  exact ⟨_,st',h,ziB ho ha hv hp hn hst⟩
 ·rename_i e ho
  unfold zcH at h
  simp only [zbi] at h
  obtain ⟨⟨ob,vf⟩,ha,h⟩:=h
  exact ⟨_,_,h,zd6 (e:=0) (.inl ⟨_,ho⟩) ha⟩
 ·rename_i e x ho
  unfold zcH at h
  simp only [zbi] at h
  obtain ⟨⟨ob,vf⟩,ha,h⟩:=h
  exact ⟨_,_,h,zd6 (e:=0) (.inr (.inl ⟨_,_,ho⟩)) ha⟩
 ·rename_i t x ho
  unfold zcH at h
  simp only [zbi] at h
  obtain ⟨⟨ob,vf⟩,ha,h⟩:=h
  exact ⟨_,_,h,zd6 (e:=0) (.inr (.inr (.inl ⟨_,_,ho⟩))) ha⟩
 ·rename_i t ho
  unfold zcH at h
  simp only [zbi] at h
  obtain ⟨⟨ob,vf⟩,ha,h⟩:=h
  exact ⟨_,_,h,zd6 (e:=0) (.inr (.inr (.inr ⟨_,ho⟩))) ha⟩
 ·rename_i t len cap ho
  simp only [zbi] at h
  obtain ⟨vl,hvl,l,hl,vc,hvc,c,hcc,h⟩:=h
  split at h
  ·rename_i e hu
   simp only [zbi] at h
   obtain ⟨i,hi,zero,hz,h⟩:=h
   obtain ⟨hck,h⟩:=zaj h
   simp only [zbi] at h
   obtain ⟨u,hu',h⟩:=h
   exact ⟨_,_,h,zgu ho hvl hl hvc hcc hu hi hz hck (by rw [hu'])⟩
  ·cases h
 ·rename_i it ho
  simp only [zbi] at h
  obtain ⟨a,ha,⟨i,k⟩,hp,h⟩:=h
  obtain ⟨hk,h⟩:=zaj h
  simp only [zbi] at h
  obtain ⟨⟨s,p⟩,hg,h⟩:=h
  obtain ⟨hl,h⟩:=zaj h
  exact s_next ho ha hp hk hg hl h
 ·rename_i t x ix ok ho
  simp only [zbi] at h
  obtain ⟨a,ha,b,hb,h⟩:=h
  split at h
  ·rename_i kt et hu
   split at h
   ·rename_i hkt
    simp only [zbi] at h
    obtain ⟨k,hk,inf,hinf,zero,hz,h⟩:=h
    have:=zaO hk;subst this
    obtain ⟨hf,h⟩:=zaj h
    simp only [zbi] at h
    obtain ⟨q,hq,h⟩:=h
    refine ⟨_,st,?_,zia ho ha hb hu hkt hinf hz hf hq⟩
    cases q<;>exact h
   ·cases h
  ·cases h
 ·rename_i t m k x ho
  simp only [zbi] at h
  obtain ⟨vm,hm,vk,hk,v,hv,h⟩:=h
  split at h
  ·rename_i kt et hu
   split at h
   ·rename_i hkt
    simp only [zbi] at h
    obtain ⟨key,hkey,st',hst,h⟩:=h
    have:=zaO hkey;subst this
    exact ⟨_,st',h,zgv ho hm hk hv hu hkt hst⟩
   ·cases h
  ·cases h
 ·rename_i f args ats ho
  simp only [zbi] at h
  obtain ⟨vf,hf,vs,hvs,h⟩:=h
  split at h
  ·rename_i g xs ys
   simp only [zbi] at h
   obtain ⟨⟨v,st'⟩,hcall,h⟩:=h
   obtain ⟨u,hu,h⟩:=zaB h
   cases hu
   exact ⟨v,st',h,s_call ho hf hvs (ze2.1 hcall)⟩
  ·cases h
 ·rename_i b args ats ho
  simp only [zbi] at h
  obtain ⟨vs,hvs,h⟩:=h
  split at h
  ·rename_i v t ht
   split at h
   ·rename_i hu
    simp only [zbi] at h
    obtain ⟨s,hs,h⟩:=h
    have:=zaO hs;subst this
    exact ⟨_,st,h,zh9 hL ho hvs ht hu⟩
   ·rename_i e hu
    obtain ⟨u,hu',h⟩:=zaB h
    exact ⟨u,st,h,ziA ho hvs ht hu hu'⟩
   ·cases h
  ·rename_i k x k' y ht
   obtain ⟨hk,h⟩:=zaj h
   exact ⟨_,st,h,s_min ho hvs hk⟩
  ·rename_i k x k' y ht
   obtain ⟨hk,h⟩:=zaj h
   exact ⟨_,st,h,s_max ho hvs hk⟩
  ·rename_i s x t xt ht
   split at h
   ·cases h
   ·rename_i e d hnd hu hxt
    simp only [zbi] at h
    obtain ⟨i,hi,zero,hz,h⟩:=h
    obtain ⟨hck,h⟩:=zaj h
    simp only [zbi] at h
    obtain ⟨⟨v,st'⟩,happ,h⟩:=h
    refine ⟨v,st',h,zib ho hvs ht hu hxt (fun k e=>?_) hi hz hck happ⟩
    subst e
    first | exact hnd _ rfl | exact hnd _ _ rfl rfl | exact hnd _ _ hu hxt | simp_all
   ·cases h
  ·rename_i d x t xt ht
   split at h
   ·rename_i e hu
    simp only [zbi] at h
    obtain ⟨sz,hsz,⟨v,st'⟩,hcp,h⟩:=h
    obtain ⟨u,hu',h⟩:=zaB h
    cases hu'
    exact ⟨v,st',h,s_copy ho hvs ht hu hsz hcp⟩
   ·cases h
  ·rename_i x t ht
   split at h
   ·rename_i e hu
    simp only [zbi] at h
    obtain ⟨inf,hinf,zero,hz,h⟩:=h
    obtain ⟨hf,h⟩:=zaj h
    simp only [zbi] at h
    obtain ⟨st',hst,h⟩:=h
    exact ⟨_,st',h,ziC ho hvs ht hu hinf hz hf hst⟩
   ·cases h
  ·cases h
 ·rename_i t parts ho
  simp only [zbi] at h
  obtain ⟨i,hi,zero,hz,h⟩:=h
  obtain ⟨hf,h⟩:=zaj h
  split at h
  ·rename_i fields hu
   obtain ⟨hall,h⟩:=zaj h
   obtain ⟨v,hk,hr⟩:=zfs ho hi hz hf hu hall h
   exact ⟨v,st,hk,hr⟩
  ·rename_i n e hu
   simp only [zbi] at h
   obtain ⟨z,hsz,h⟩:=h
   obtain ⟨v,hk,hr⟩:=zfN ho hi hz hf hu hsz h
   exact ⟨v,st,hk,hr⟩
  ·cases h
 ·rename_i t len parts ho
  split at h
  ·rename_i e hu
   simp only [zbi] at h
   obtain ⟨i,hi,zero,hz,h⟩:=h
   obtain ⟨hck,h⟩:=zaj h
   exact zgb ho hu hi hz hck h
  ·cases h
 ·rename_i t x ho
  simp only [zbi] at h
  obtain ⟨v,hv,h⟩:=h
  exact ⟨v,st,h,ze4 ho hv⟩
 ·rename_i f a b ho
  simp only [zbi] at h
  obtain ⟨v,hv,h⟩:=h
  exact ⟨v,st,h,zg6 ho hv⟩
 ·cases h
end
theorem PT.sing_fuel {α:Type} (x:Option α):∀ (f g n:Nat),n<f→n<g→PT.sing x f n=PT.sing x g n:=by
 intro f
 induction f with
 | zero=>intro g n h;omega
 | succ f ih=>
   intro g n h1 h2
   obtain ⟨g,rfl⟩:∃ k,g=k+1:=⟨g-1,by omega⟩
   cases n with
   | zero=>rw [sing_zero,sing_zero]
   | succ k=>rw [sing_succ,sing_succ,ih g (k/2) (by omega) (by omega)]
theorem PT.nil_upd {α:Type} (x:Option α) (k f:Nat) (h:k<f):PT.sing x f k=(PT.nil:PT α).upd k x:=by
 rw [upd_nil];exact sing_fuel x f (k+1) k h (by omega)
theorem PT.sing_upd {α:Type} (x y:Option α):∀ (f n m:Nat),n<f→n≠m→(PT.sing x f n).upd m y=((PT.nil:PT α).upd m y).upd n x:=by
 intro f
 induction f with
 | zero=>intro n m h;omega
 | succ f ih=>
   intro n m h hne
   cases n with
   | zero=>
     cases m with
     | zero=>exact absurd rfl hne
     | succ k=>
       have e:(PT.nil:PT α).upd (k+1) y=PT.sing y (k+1+1) (k+1):=upd_nil _ _
       rw [sing_zero,upd_succ,e,sing_succ]
       by_cases hb:k%2=0<;>simp only [zac,hb,decide_true,decide_false,zct,zcf,upd_zero,nil_upd y (k/2) (k+1) (by omega)]
   | succ a=>
     cases m with
     | zero=>
       rw [sing_succ,upd_nil,sing_zero,upd_succ]
       by_cases hb:a%2=0<;>simp only [zac,hb,decide_true,decide_false,zct,zcf,upd_zero,nil_upd x (a/2) f (by omega)]
     | succ k=>
       rw [sing_succ,upd_nil,sing_succ]
       by_cases ha:a%2=0<;>by_cases hb:k%2=0<;>simp only [zac,ha,hb,decide_true,decide_false,zct,zcf,upd_succ,nil_upd x (a/2) f (by omega),nil_upd y (k/2) (k+1) (by omega)]
       ·rw [← nil_upd x (a/2) f (by omega),ih (a/2) (k/2) (by omega) (by omega)]
       ·rw [← nil_upd x (a/2) f (by omega),ih (a/2) (k/2) (by omega) (by omega)]
theorem PT.upd_comm {α:Type} (t:PT α):∀ (n m:Nat) (x y:Option α),n≠m→(t.upd n x).upd m y=(t.upd m y).upd n x:=by
 induction t with
 | nil=>intro n m x y h;rw [upd_nil n x];exact sing_upd x y (n+1) n m (by omega) h
 | node l v r ihl ihr=>
   intro n m x y h
   cases n with
   | zero=>
     cases m with
     | zero=>exact absurd rfl h
     | succ k=>by_cases hb:k%2=0<;>simp only [upd_zero,upd_succ,zac,hb,decide_true,decide_false,zct,zcf]
   | succ a=>
     cases m with
     | zero=>by_cases hb:a%2=0<;>simp only [upd_zero,upd_succ,zac,hb,decide_true,decide_false,zct,zcf]
     | succ k=>
       by_cases ha:a%2=0<;>by_cases hb:k%2=0<;>simp only [upd_succ,zac,ha,hb,decide_true,decide_false,zct,zcf]
       ·rw [ihl (a/2) (k/2) x y (by omega)]
       ·rw [ihr (a/2) (k/2) x y (by omega)]
theorem PT.sing_twice {α:Type} (x y:Option α):∀ (f n:Nat),n<f→(PT.sing x f n).upd n y=PT.sing y f n:=by
 intro f
 induction f with
 | zero=>intro n h;omega
 | succ f ih=>
   intro n h
   cases n with
   | zero=>rw [sing_zero,sing_zero,upd_zero]
   | succ k=>
     rw [sing_succ,sing_succ]
     by_cases hb:k%2=0<;>simp only [upd_succ,zac,hb,decide_true,decide_false,zct,zcf,ih (k/2) (by omega)]
theorem PT.upd_upd {α:Type} (t:PT α):∀ (n:Nat) (x y:Option α),(t.upd n x).upd n y=t.upd n y:=by
 induction t with
 | nil=>intro n x y;rw [upd_nil,upd_nil];exact sing_twice x y (n+1) n (by omega)
 | node l v r ihl ihr=>
   intro n x y
   cases n with
   | zero=>simp only [upd_zero]
   | succ k=>by_cases hb:k%2=0<;>simp only [upd_succ,zac,hb,decide_true,decide_false,zct,zcf,ihl,ihr]
theorem PT.upd_get {α:Type} (t:PT α):∀ (n:Nat) (x:α),t.get n=some x→t.upd n (some x)=t:=by
 induction t with
 | nil=>intro n x h;cases h
 | node l v r ihl ihr=>
   intro n x h
   cases n with
   | zero=>rw [get_zero] at h;rw [upd_zero,h]
   | succ k=>
     rw [get_succ] at h
     by_cases hb:k%2=0<;>simp only [upd_succ,zac,hb,decide_true,decide_false,zct,zcf] at h ⊢
     ·rw [ihl _ _ h]
     ·rw [ihr _ _ h]
structure Fz (i:Nat) (c:List Value) (s t:St):Prop where
 mem:t.mem=s.mem.upd i (some (.table c))
 row:s.mem.get i=some (.cells c 0)
 next:t.next=s.next
 base:t.base=s.base
 log:t.log=s.log
 lt:i<s.next
 nl:i∉s.log
section
variable {i : Nat} {c : List Value} {s t : St}
theorem Fz.get (h:Fz i c s t) {j:Nat} (hj:j≠i):t.mem.get j=s.mem.get j:=by
 rw [h.mem,PT.get_upd,if_neg fun e=>hj e.symm]
theorem Fz.geti (h:Fz i c s t):t.mem.get i=some (.table c):=by rw [h.mem,PT.get_upd,if_pos rfl]
theorem Fz.ne (h:Fz i c s t) {j:Nat} {ob:AObj} (hj:t.mem.get j=some ob) (ho:∀ d,ob≠.table d):j≠i:=fun e=>by
 subst e
 rw [h.geti] at hj
 cases hj
 exact ho _ rfl
theorem Fz.new (h:Fz i c s t) (ob:AObj):Fz i c (s.new ob) (t.new ob):=by
 have hne:t.next≠i:=by rw [h.next];have:=h.lt;omega
 refine ⟨?_,?_,by show t.next+1=s.next+1;rw [h.next],h.base,h.log,by show i<s.next+1;have:=h.lt;omega,h.nl⟩
 ·show t.mem.upd t.next (some ob)=(s.mem.upd s.next (some ob)).upd i _
  rw [h.mem,h.next,PT.upd_comm]
  rw [h.next] at hne
  exact fun e=>hne e.symm
 ·show (s.mem.upd s.next (some ob)).get i=_
  rw [PT.get_upd,if_neg (by rw [← h.next];exact hne)]
  exact h.row
theorem Fz.note (h:Fz i c s t) {j:Nat} (hj:j≠i):t.note j=s.note j∧i∉s.note j:=by
 unfold St.note
 rw [h.base,h.log]
 refine ⟨rfl,?_⟩
 have:=h.nl
 cases Nat.blt j s.base with
 | false=>exact this
 | true=>
   simp only [zct]
   cases s.log.contains j with
   | true=>exact this
   | false=>
     simp only [zcf,List.mem_cons,not_or]
     exact ⟨fun e=>hj e.symm,this⟩
theorem Fz.write (h:Fz i c s t) {j:Nat} (hj:j≠i) (ob:Option AObj):Fz i c (s.write j ob) (t.write j ob):=by
 obtain ⟨n1,n2⟩:=h.note hj
 refine ⟨?_,?_,h.next,h.base,n1,h.lt,n2⟩
 ·show t.mem.upd j ob=(s.mem.upd j ob).upd i _
  rw [h.mem,PT.upd_comm]
  exact fun e=>hj e.symm
 ·show (s.mem.upd j ob).get i=_
  rw [PT.get_upd,if_neg hj]
  exact h.row
theorem Fz.local (h:Fz i c s t):Fz i c { s with base:=s.next,log:=[] } { t with base:=t.next,log:=[] }:=⟨h.mem,h.row,h.next,h.next,rfl,h.lt,by simp⟩
def FzR {β:Type} (i:Nat) (c:List Value) (r' r:Option (β×St)):Prop:=∀ v t',r'=some (v,t')→∃ s',r=some (v,s')∧Fz i c s' t'
theorem FzR.bind {β γ:Type} {r' r:Option (β×St)} {f' f:β×St→Option (γ×St)} (h:FzR i c r' r) (hf:∀ v s t,Fz i c s t→FzR i c (f' (v,t)) (f (v,s))):FzR i c (r'.bind f') (r.bind f):=fun w t' hr=>by
 simp only [zbi] at hr
 obtain ⟨⟨v,t1⟩,h1,h2⟩:=hr
 obtain ⟨s1,h3,h4⟩:=h v t1 h1
 obtain ⟨s2,h5,h6⟩:=hf v s1 t1 h4 w t' h2
 exact ⟨s2,by rw [h3];exact h5,h6⟩
theorem FzR.bindO {β γ:Type} {o:Option β} {f' f:β→Option (γ×St)} (hf:∀ v,o=some v→FzR i c (f' v) (f v)):FzR i c (o.bind f') (o.bind f):=fun w t' hr=>by
 cases o with
 | none=>cases hr
 | some v=>exact hf v rfl w t' hr
theorem FzR.map {β γ:Type} {r' r:Option (β×St)} {g:β→γ} (h:FzR i c r' r):FzR i c (r'.map fun x=>(g x.1,x.2)) (r.map fun x=>(g x.1,x.2)):=fun w t' hr=>by
 simp only [zmi] at hr
 obtain ⟨⟨v,t1⟩,h1,h2⟩:=hr
 obtain ⟨s1,h3,h4⟩:=h v t1 h1
 cases h2
 exact ⟨s1,by rw [h3];rfl,h4⟩
theorem FzR.some {β:Type} (h:Fz i c s t) (v:β):FzR i c (some (v,t)) (some (v,s)):=fun w t' hr=>by cases hr;exact ⟨s,rfl,h⟩
theorem FzR.none {β:Type} {r:Option (β×St)}:FzR i c none r:=fun w t' hr=>by cases hr
theorem FzR.cond {β:Type} {b:Bool} {x y x' y':Option (β×St)} (h1:b=true→FzR i c x' x) (h2:b=false→FzR i c y' y):FzR i c (cond b x' y') (cond b x y):=by
 cases b with
 | true=>exact h1 rfl
 | false=>exact h2 rfl
theorem zez (h:Fz i c s t) (j k:Nat) (vs:List Value) {t':St} (hr:za4 t j k vs=some t'):∃ s',za4 s j k vs=some s'∧Fz i c s' t':=by
 unfold za4 at hr ⊢
 split at hr
 ·rename_i d z hg
  have hj:j≠i:=h.ne hg fun d e=>by cases e
  rw [h.get hj] at hg
  rw [hg]
  simp only
  obtain ⟨hb,hr⟩:=zaj hr
  rw [hb]
  simp only [zct,zmi] at hr ⊢
  obtain ⟨d',h1,rfl⟩:=hr
  exact ⟨_,⟨d',h1,rfl⟩,h.write hj _⟩
 ·cases hr
theorem zeA (h:Fz i c s t) (sz n:Nat) (v:Value) {l:List Value} (hr:za5 t sz n v=some l):za5 s sz n v=some l:=by
 unfold za5 at hr ⊢
 split at hr
 ·rename_i j k _ _
  split at hr
  ·rename_i d z hg
   have hj:j≠i:=h.ne hg fun d e=>by cases e
   rw [h.get hj] at hg
   rw [hg]
   exact hr
  ·cases hr
 ·exact hr
 ·exact hr
 ·cases hr
theorem zhO {L:Lk} (h:Fz i c s t) (ty xt:TypeId) (a x:Value):FzR i c (za6 L t ty xt a x) (za6 L s ty xt a x):=by
 unfold za6
 split
 ·exact .none
 ·refine .bindO fun inf _=>.bindO fun zero _=>.bindO fun n _=>?_
  split
  ·refine .cond (fun _=>.some h _) fun _=>.cond (fun _=>?_) fun _=>.none
   intro v t' hr
   simp only [zbi] at hr
   obtain ⟨new,h1,h2⟩:=hr
   rw [zeA h _ _ _ h1,← h.next]
   cases h2
   exact ⟨_,rfl,h.new _⟩
  ·rename_i j k len cap
   refine .cond (fun _=>.some h _) fun _=>.cond (fun _=>?_) fun _=>.none
   intro v t' hr
   split at hr
   ·rename_i d z hg
    have hj:j≠i:=h.ne hg fun d e=>by cases e
    rw [h.get hj] at hg
    rw [hg]
    simp only
    obtain ⟨hb,hr⟩:=zaj hr
    rw [hb]
    simp only [zct,zbi] at hr ⊢
    obtain ⟨old,h1,new,h2,h3⟩:=hr
    obtain ⟨hb2,h3⟩:=zaj h3
    cases h3
    refine ⟨(s.write j Option.none).new (.cells (old++new) inf.size),⟨old,h1,new,zeA h _ _ _ h2,?_⟩,(h.write hj _).new _⟩
    rw [hb2,h.next];rfl
   ·cases hr
  ·exact .none
 ·exact .none
theorem ziD {L:Lk} {ρ:Operand→Option Value} {o:Oper} {j:Nat} {g:AObj→Option Value} (h:zav L ρ o=some (j,g)) {v:Value} (hv:g (.table c)=some v):g (.cells c 0)=some v:=by
 unfold zav at h
 split at h
 ·simp only [zbi,zmi,zpj] at h
  obtain ⟨a,_,p,_,_,rfl⟩:=h
  exact hv
 ·simp only [zbi] at h
  obtain ⟨a,_,h⟩:=h
  split at h
  ·split at h
   ·cases h;cases hv
   ·cases h
  ·cases h
 ·simp only [zbi] at h
  obtain ⟨a,_,lo,_,hi,_,h⟩:=h
  split at h
  ·split at h
   ·simp only [zbi,zmi,zpj] at h
    obtain ⟨sz,_,p,_,_,rfl⟩:=h
    have e:(Nat.beq 0 sz||Nat.beq 0 0)=true:=by simp
    simp only [e,zct]
    exact hv
   ·cases h
  ·cases h
 ·simp only [zbi] at h
  obtain ⟨a,_,b,_,h⟩:=h
  split at h
  ·split at h
   ·simp only [zbi] at h
    obtain ⟨inf,_,zero,_,h⟩:=h
    obtain ⟨_,h⟩:=zaj h
    cases h;cases hv
   ·cases h
  ·cases h
 ·cases h
def zcI (i:Nat) (c:List Value) (callf:FuncId→List Value→St→Option (Value×St)):Prop:=∀ f args s t,Fz i c s t→FzR i c (callf f args t) (callf f args s)
theorem gen_fz {L:Lk} {callf:FuncId→List Value→St→Option (Value×St)} (hc:zcI i c callf) (ρ:Operand→Option Value) (o:Oper) (h:Fz i c s t):FzR i c (zay L callf ρ o t) (zay L callf ρ o s):=by
 unfold zay
 split
 ·refine .bindO fun a _=>.bindO fun v _=>.bindO fun p _=>.bindO fun n _=>.cond (fun _=>?_) fun _=>.none
  intro w t' hr
  simp only [zmi,zpj] at hr
  obtain ⟨t1,h1,rfl,rfl⟩:=hr
  obtain ⟨s1,h2,h3⟩:=zez h _ _ _ h1
  exact ⟨s1,by simp only [h2,Option.map_some],h3⟩
 ·refine .bindO fun a ha=>.bindO fun p hp=>?_
  intro w t' hr
  obtain ⟨j,k⟩:=p
  simp only at hr ⊢
  split at hr
  ·rename_i str pos hg
   have hj:j≠i:=h.ne hg fun d e=>by cases e
   rw [h.get hj] at hg
   rw [hg]
   simp only
   cases hb:Nat.blt pos str.size with
   | true=>
     rw [hb] at hr
     simp only [zct] at hr ⊢
     cases hr
     exact ⟨_,rfl,h.write hj _⟩
   | false=>
     rw [hb] at hr
     simp only [zcf] at hr ⊢
     cases hr
     exact ⟨_,rfl,h⟩
  ·cases hr
 ·refine .bindO fun m hm=>.bindO fun k hk0=>.bindO fun x hx=>?_
  intro w t' hr
  split at hr
  ·rename_i j str kt et hu
   split at hr
   ·rename_i l hk hg
    have hj:j≠i:=h.ne hg fun d e=>by cases e
    rw [h.get hj] at hg
    cases hr
    exact ⟨_,by simp only [hu,hk,hg],h.write hj _⟩
   ·cases hr
  ·cases hr
 ·refine .bindO fun f _=>.bindO fun vs _=>?_
  split
  ·exact hc _ _ _ _ h
  ·exact .none
 ·refine .bindO fun vs _=>?_
  split
  ·exact zhO h _ _ _ _
  ·split
   ·refine .bindO fun sz _=>.bindO fun n _=>?_
    split
    ·intro w t' hr
     simp only [zbi,zmi,zpj] at hr
     obtain ⟨new,h1,t1,h2,rfl,rfl⟩:=hr
     obtain ⟨s1,h3,h4⟩:=zez h _ _ _ h2
     exact ⟨s1,by simp only [zeA h _ _ _ h1,zob,h3,Option.map_some],h4⟩
    ·exact .some h _
    ·exact .none
   ·exact .none
  ·split
   ·exact .some h _
   ·exact .some h _
   ·refine .bindO fun inf _=>.bindO fun zero _=>.cond (fun _=>?_) fun _=>.none
    intro w t' hr
    simp only [zmi,zpj] at hr
    obtain ⟨t1,h2,rfl,rfl⟩:=hr
    obtain ⟨s1,h3,h4⟩:=zez h _ _ _ h2
    exact ⟨s1,by simp only [h3,Option.map_some],h4⟩
   ·exact .none
  ·exact .none
 ·exact .none
theorem zhc {P:Program} {L:Lk} {callf:FuncId→List Value→St→Option (Value×St)} (hc:zcI i c callf) (ρ:Operand→Option Value) (o:Oper) (h:Fz i c s t) {v:Value} {kd:Kd} {t':St} (hr:opE P L callf ρ o t=some (v,kd,t')):∃ s',opE P L callf ρ o s=some (v,kd,s')∧Fz i c s' t':=by
 unfold opE at hr ⊢
 cases hp:zad P L ρ o with
 | some w=>rw [hp] at hr;cases hr;exact ⟨s,rfl,h⟩
 | none=>
   rw [hp] at hr
   simp only at hr ⊢
   cases ha:zak L ρ o with
   | some x=>
     obtain ⟨ob,g⟩:=x
     rw [ha] at hr
     cases hr
     exact ⟨s.new ob,by rw [h.next],h.new ob⟩
   | none=>
     rw [ha] at hr
     simp only at hr ⊢
     cases hq:zav L ρ o with
     | some x=>
       obtain ⟨j,g⟩:=x
       rw [hq] at hr
       simp only [zbi,zmi,zpj] at hr ⊢
       obtain ⟨ob,h1,w,h2,rfl,rfl,rfl⟩:=hr
       by_cases hj:j=i
       ·subst hj
        rw [h.geti] at h1
        cases h1
        exact ⟨s,⟨_,h.row,w,ziD hq h2,rfl,rfl,rfl⟩,h⟩
       ·rw [h.get hj] at h1
        exact ⟨s,⟨ob,h1,w,h2,rfl,rfl,rfl⟩,h⟩
     | none=>
       rw [hq] at hr
       simp only [zmi,zpj] at hr ⊢
       obtain ⟨⟨w,t1⟩,h1,rfl,rfl,rfl⟩:=hr
       obtain ⟨s1,h2,h3⟩:=gen_fz hc ρ o h w t1 h1
       exact ⟨s1,⟨(w,s1),h2,rfl,rfl,rfl⟩,h3⟩
theorem zgc {P:Program} {L:Lk} {callf:FuncId→List Value→St→Option (Value×St)} (hc:zcI i c callf) (all:List Oper):∀ (l:List Oper) (τ:Tm) (s t:St),Fz i c s t→FzR i c (opsE P L callf all l τ t) (opsE P L callf all l τ s)
 | [],τ,s,t,h=>.some h _
 | o::l,τ,s,t,h=>by
   unfold opsE
   refine .cond (fun _=>?_) fun _=>zgc hc all l _ s t h
   intro w t' hr
   simp only [zbi] at hr
   obtain ⟨⟨v,kd,t1⟩,h1,h2⟩:=hr
   obtain ⟨s1,h3,h4⟩:=zhc hc _ o h h1
   obtain ⟨s2,h5,h6⟩:=zgc hc all l _ s1 t1 h4 w t' h2
   exact ⟨s2,by rw [h3];exact h5,h6⟩
theorem zgI {P:Program} {L:Lk} {callf:FuncId→List Value→St→Option (Value×St)} (hc:zcI i c callf) (ops:Array Oper):∀ (l:List Oper) (recs:List Rec) (τ:Tm) (s t:St),Fz i c s t→FzR i c (zaY P L callf ops l recs τ t) (zaY P L callf ops l recs τ s)
 | [],recs,τ,s,t,h=>.some h _
 | o::l,recs,τ,s,t,h=>by
   unfold zaY
   intro w t' hr
   simp only [zbi] at hr
   obtain ⟨⟨v,kd,t1⟩,h1,h2⟩:=hr
   have h3:∃ s1,(cond (wantedE ops.toList τ o) (opE P L callf (rho L τ) o { s with base:=s.next,log:=[] }) (some (undef,.blind,{ s with base:=s.next,log:=[] })))=some (v,kd,s1)∧Fz i c s1 t1:=by
    cases hw:wantedE ops.toList τ o with
    | true=>rw [hw] at h1;exact zhc hc _ o h.local h1
    | false=>rw [hw] at h1;cases h1;exact ⟨_,rfl,h.local⟩
   obtain ⟨s1,h3,h4⟩:=h3
   rw [h3]
   simp only [zob] at h2 ⊢
   obtain ⟨hb,h2⟩:=zaj h2
   have hb':(okWith ops recs 0 { o:=o,preds:=predsE recs o||| (1<<<recs.length),log:=s1.log,kd:=kd }&&o.after.all fun e=>!binding e||Nat.blt e.on recs.length)=true:=by rw [← h4.log];exact hb
   rw [hb',zct]
   have h5:Fz i c { s1 with base:=s.base,log:=(s1.log.filter fun i=>Nat.blt i s.base&&!s.log.contains i)++s.log } { t1 with base:=t.base,log:=(t1.log.filter fun i=>Nat.blt i t.base&&!t.log.contains i)++t.log }:=by
    refine ⟨h4.mem,h4.row,h4.next,h.base,by show _++_=_++_;rw [h4.log,h.log,h.base],h4.lt,?_⟩
    show i∉_++_
    rw [List.mem_append,not_or]
    exact ⟨fun hm=>h4.nl ((List.mem_filter.1 hm).1),h.nl⟩
   obtain ⟨s2,h6,h7⟩:=zgI hc ops l _ _ _ _ h5 w t' h2
   rw [h4.log] at h6
   exact ⟨s2,h6,h7⟩
theorem ze5 {L:Lk} (h:Fz i c s t) (rs:List ResultVar) (τ:Tm) {vs:List Value} (hr:zao L rs τ t=some vs):zao L rs τ s=some vs:=by
 unfold zao at hr ⊢
 induction rs generalizing vs with
 | nil=>exact hr
 | cons r rs ih=>
   rw [List.mapM_cons] at hr ⊢
   simp only [Option.bind_eq_bind,zbi] at hr ⊢
   obtain ⟨v,h1,us,h2,h3⟩:=hr
   refine ⟨v,?_,us,ih h2,h3⟩
   cases r with
   | tmp d=>exact h1
   | cell a ty=>
     simp only [zbi] at h1 ⊢
     obtain ⟨p,h4,h1⟩:=h1
     refine ⟨p,h4,?_⟩
     split at h1
     ·rename_i d z hg
      have hj:p.1≠i:=h.ne hg fun d e=>by cases e
      rw [h.get hj] at hg
      rw [hg]
      exact h1
     ·cases h1
theorem zel (y:Option AObj):∀ (l:List (Nat×AObj)) (m:PT AObj),(∀ x∈l,x.1≠i)→putAll l (m.upd i y)=(putAll l m).upd i y
 | [],m,_=>rfl
 | x::l,m,h=>by
   unfold putAll
   rw [zel y l m fun z hz=>h z (by simp [hz]),PT.upd_comm]
   exact fun e=>h x (by simp) e.symm
theorem zgJ {L:Lk} (hgl:L.glob i=false) {rec:Code→Tm→St→Option (Ex×Tm×St)} (hrec:∀ k τ s t,Fz i c s t→∀ e τ' t',rec k τ t=some (e,τ',t')→∃ s',rec k τ s=some (e,τ',s')∧Fz i c s' t'):zcI i c (zam L rec):=by
 intro f args s t h
 unfold zam
 cases hx:L.ext f args with
 | some v=>exact .some h v
 | none=>
   simp only
   rw [h.next]
   cases hcn:L.con f args s.next with
   | some k=>
     simp only
     intro v t' hr
     obtain ⟨hb,hr⟩:=zaj hr
     cases hr
     simp only [zae,List.all_eq_true] at hb
     obtain ⟨⟨⟨b1,b2⟩,b3⟩,b4⟩:=hb
     have hb':(Nat.ble s.next k.A&&Nat.ble k.A k.B&&k.objs.all (fun x=>Nat.ble k.A x.1&&Nat.blt x.1 k.B)&&k.tabs.all (fun x=>L.glob x.1&&Nat.blt x.1 k.A&&zda (s.mem.get x.1) x.2))=true:=by
      simp only [zae,List.all_eq_true]
      refine ⟨⟨⟨b1,b2⟩,b3⟩,fun x hx=>?_⟩
      obtain ⟨⟨q1,q2⟩,q3⟩:=b4 x hx
      have hne:x.1≠i:=fun e=>by rw [e,hgl] at q1;cases q1
      rw [h.get hne] at q3
      exact ⟨⟨q1,q2⟩,q3⟩
     have hA:=Nat.le_of_ble_eq_true b1
     have hB:=Nat.le_of_ble_eq_true b2
     have hlt:=h.lt
     have hob:∀ x∈k.objs,x.1≠i:=fun x hx e=>by
      have:=Nat.le_of_ble_eq_true (b3 x hx).1
      omega
     refine ⟨{ s with mem:=putAll k.objs s.mem,next:=k.B },by rw [hb'];rfl,?_,?_,rfl,h.base,h.log,?_,h.nl⟩
     ·show putAll k.objs t.mem=_
      rw [h.mem,zel _ _ _ hob]
     ·show (putAll k.objs s.mem).get i=_
      rw [zaL _ _ _ (fun hm=>by
       obtain ⟨x,hx,e⟩:=List.mem_map.1 hm
       exact hob x hx e)]
      exact h.row
     ·show i<k.B;omega
   | none=>
     simp only
     refine .bindO fun fx _=>.bindO fun k _=>.cond (fun _=>.cond (fun _=>?_) fun _=>?_) fun _=>.none
     ·intro v t' hr
      simp only [zbi] at hr
      obtain ⟨⟨e,τ,t1⟩,h1,h2⟩:=hr
      have hl:=h.local
      rw [h.next] at hl
      obtain ⟨s1,h3,h4⟩:=hrec _ _ _ _ hl e τ t1 h1
      rw [h3]
      simp only [zob] at h2 ⊢
      have key:∀ r:Option (Value×St),((zao L fx.2.results.toList τ t1).bind fun vs=>cond (t1.log.isEmpty&&flat3 (zas vs)) (some (zas vs,{ t with next:=t1.next })) Option.none)=some (v,t')→
        ∃ s',((zao L fx.2.results.toList τ s1).bind fun vs=>cond (s1.log.isEmpty&&flat3 (zas vs)) (some (zas vs,{ s with next:=s1.next })) Option.none)=some (v,s')∧Fz i c s' t':=fun _ hh=>by
       simp only [zbi] at hh
       obtain ⟨vs,h5,h6⟩:=hh
       obtain ⟨hb,h6⟩:=zaj h6
       cases h6
       rw [ze5 h4 _ _ h5]
       refine ⟨{ s with next:=s1.next },?_,h.mem,h.row,h4.next,h.base,h.log,h4.lt,h.nl⟩
       simp only [zob]
       rw [← h4.log,hb];rfl
      cases e with
      | exit id=>cases h2
      | normal=>exact key Option.none h2
      | ret=>exact key Option.none h2
     ·intro v t' hr
      simp only [zbi] at hr
      obtain ⟨⟨e,τ,t1⟩,h1,h2⟩:=hr
      obtain ⟨s1,h3,h4⟩:=hrec _ _ _ _ h e τ t1 h1
      rw [h3]
      simp only [zob] at h2 ⊢
      have key:((zao L fx.2.results.toList τ t1).map fun vs=>(zas vs,t1))=some (v,t')→∃ s',((zao L fx.2.results.toList τ s1).map fun vs=>(zas vs,s1))=some (v,s')∧Fz i c s' t':=fun hh=>by
       simp only [zmi,zpj] at hh
       obtain ⟨vs,h5,rfl,rfl⟩:=hh
       exact ⟨s1,by rw [ze5 h4 _ _ h5];rfl,h4⟩
      cases e with
      | exit id=>cases h2
      | normal=>exact key h2
      | ret=>exact key h2
theorem zgK {P:Program} {L:Lk} (hgl:L.glob i=false):∀ (n:Nat) (k:Code) (τ:Tm) (s t:St),Fz i c s t→∀ e τ' t',zai P L n k τ t=some (e,τ',t')→∃ s',zai P L n k τ s=some (e,τ',s')∧Fz i c s' t'
 | 0,k,τ,s,t,h,e,τ',t',hr=>by cases hr
 | n+1,k,τ,s,t,h,e,τ',t',hr=>by
   have ih:∀ (k:Code) (τ:Tm) (s t:St),Fz i c s t→∀ e τ' t',zai P L n k τ t=some (e,τ',t')→∃ s',zai P L n k τ s=some (e,τ',s')∧Fz i c s' t':=zgK hgl n
   have hcall:zcI i c (zam L (zai P L n)):=zgJ hgl fun k τ s t h=>ih k τ s t h
   unfold zai at hr ⊢
   split at hr
   ·cases hr;exact ⟨s,rfl,h⟩
   ·cases hr;exact ⟨s,rfl,h⟩
   ·simp only [zmi,zpj] at hr ⊢
    obtain ⟨⟨τ1,t1⟩,h1,rfl,rfl,rfl⟩:=hr
    obtain ⟨s1,h2,h3⟩:=zgc hcall _ _ _ s t h _ _ h1
    exact ⟨s1,⟨(τ1,s1),h2,rfl,rfl,rfl⟩,h3⟩
   ·simp only [zmi,zpj] at hr ⊢
    obtain ⟨⟨τ1,t1⟩,h1,rfl,rfl,rfl⟩:=hr
    obtain ⟨s1,h2,h3⟩:=zgI hcall _ _ _ _ s t h _ _ h1
    exact ⟨s1,⟨(τ1,s1),h2,rfl,rfl,rfl⟩,h3⟩
   ·simp only [zbi] at hr
    obtain ⟨⟨e1,τ1,t1⟩,h1,h2⟩:=hr
    obtain ⟨s1,h3,h4⟩:=ih _ _ _ _ h _ _ _ h1
    rw [h3]
    simp only [zob]
    cases e1 with
    | normal=>exact ih _ _ _ _ h4 _ _ _ h2
    | exit id=>cases h2;exact ⟨s1,rfl,h4⟩
    | ret=>cases h2;exact ⟨s1,rfl,h4⟩
   ·simp only [zbi] at hr
    obtain ⟨v,h1,h2⟩:=hr
    rw [h1]
    simp only [zob]
    split at h2
    ·exact ih _ _ _ _ h _ _ _ h2
    ·exact ih _ _ _ _ h _ _ _ h2
    ·cases h2
   ·simp only [zbi] at hr
    obtain ⟨⟨e1,τ1,t1⟩,h1,h2⟩:=hr
    obtain ⟨s1,h3,h4⟩:=ih _ _ _ _ h _ _ _ h1
    rw [h3]
    simp only [zob]
    cases e1 with
    | normal=>cases h2;exact ⟨s1,rfl,h4⟩
    | exit id=>cases h2;exact ⟨s1,rfl,h4⟩
    | ret=>cases h2;exact ⟨s1,rfl,h4⟩
   ·simp only [zbi] at hr
    obtain ⟨⟨e1,τ1,t1⟩,h1,h2⟩:=hr
    obtain ⟨s1,h3,h4⟩:=ih _ _ _ _ h _ _ _ h1
    rw [h3]
    simp only [zob]
    cases e1 with
    | normal=>exact ih _ _ _ _ h4 _ _ _ h2
    | exit id=>cases h2;exact ⟨s1,rfl,h4⟩
    | ret=>cases h2;exact ⟨s1,rfl,h4⟩
   ·cases hr;exact ⟨s,rfl,h⟩
   ·cases hr;exact ⟨s,rfl,h⟩
   ·cases hr
end
section
variable {P : Program} {L : Lk} {α : Type}
theorem zc5 {τ:Tm} {i:Nat} {v:Value} (h:τ.t.get i=some v):τ.get i=v:=by unfold Tm.get;rw [h];rfl
theorem zcq {τ τE:Tm} (h:TLe τ τE) (x:Operand) (v:Value) (hx:zcG L τ x=some v):rho L τE x=some v:=by
 cases x with
 | tmp t=>exact congrArg some (zc5 (h.2 t v hx))
 | const c=>exact hx
 | global g=>exact hx
 | func f=>exact hx
theorem zdw {τ:Tm} (c v:Value) (h:zcG L τ (.const c)=some v):v=c:=by
 have:=(zaj (show cond (flat3 c) (some c) none=some v from h)).2
 cases this;rfl
theorem TLe.same {τ τE:Tm} (h:TLe τ τE) {d:Nat} {v:Value} (hd:τE.t.get d=some v):TLe (τ.put (some d) v) τE:=by
 unfold Tm.put
 simp only
 cases hb:Nat.blt d τ.n with
 | false=>exact h
 | true=>
   simp only [zct]
   refine ⟨h.1,fun i u hu=>?_⟩
   simp only [PT.get_upd] at hu
   split at hu
   ·rename_i e;subst e;cases hu;exact hd
   ·exact h.2 i u hu
theorem zbm (τ:Tm) (d:Option Tmp) (v:Value):(τ.put d v).n=τ.n:=put_n τ d v
def zd7:Value→Option Nat
 | .pointer (some ⟨i,_,none⟩)=>some i
 | .slice (some ⟨i,_,none⟩) _ _=>some i
 | _=>none
def zc6 (L:Lk) (τ:Tm) (o:Oper) (sl:List Tmp):Prop:=∃ ty a x,o.op=.store ty a x∧∃ j k,rho L τ a=some (.pointer (some ⟨j,k,none⟩))∧∀ t,t∈sl→∀ i,zd7 (τ.get t)=some i→i≠j
theorem zhd {v w:Value} (h:zg3 v w=true):∃ j k',w=.pointer (some ⟨j,k',none⟩)∧∀ i,zd7 v=some i→i≠j:=by
 unfold zg3 at h
 split at h
 ·rename_i i k j k'
  refine ⟨j,k',rfl,fun i' hi e=>?_⟩
  cases hi
  subst e
  rw [zac] at h
  simp at h
 ·rename_i i k l q j k'
  refine ⟨j,k',rfl,fun i' hi e=>?_⟩
  cases hi
  subst e
  rw [zac] at h
  simp at h
 ·rename_i l q j k'
  exact ⟨j,k',rfl,fun i' hi=>by cases hi⟩
 ·cases h
theorem zem {τ:Tm} {o:Oper}:∀ (sl:List Tmp) {K:Option α} {r:α},zdS L τ o sl K=some r→K=some r∧(sl≠[]→∀ τE,TLe τ τE→zc6 L τE o sl)
 | [],K,r,h=>⟨h,fun h=>absurd rfl h⟩
 | t::sl,K,r,h=>by
   unfold zdS at h
   split at h
   ·rename_i ty a x ho
    simp only [zbi] at h
    obtain ⟨v,hv,w,hw,h⟩:=h
    obtain ⟨hne,h⟩:=zaj h
    obtain ⟨h1,h2⟩:=zem sl h
    refine ⟨h1,fun _ τE ht=>?_⟩
    obtain ⟨j,k',rfl,hij⟩:=zhd hne
    have hw':=zcq ht a _ hw
    refine ⟨ty,a,x,ho,j,k',hw',fun t' ht'=>?_⟩
    rcases List.mem_cons.1 ht' with rfl | ht'
    ·rw [zc5 (ht.2 _ _ hv)];exact hij
    ·obtain ⟨ty2,a2,x2,ho2,j2,k2,hr2,hall⟩:=h2 (by intro e;rw [e] at ht';cases ht') τE ht
     rw [ho] at ho2
     cases ho2
     rw [hw'] at hr2
     cases hr2
     exact hall t' ht'
   ·cases h
noncomputable def zbv (P:Program) (L:Lk) (callf:CallF) (all:List Oper) (τ:Tm) (o:Oper) (st:St):Option (Value×Kd×St):=
 cond (wantedE all τ o) (opE P L callf (rho L τ) o st) (some (undef,.blind,st))
theorem zhP {callf:CallF} {all:List Oper} {o:Oper} {rest:List Oper} {τ:Tm} {st:St}:
  opsE P L callf all (o::rest) τ st=(zbv P L callf all τ o st).bind fun x=>opsE P L callf all rest (τ.put o.dst x.1) x.2.2:=by
 unfold zbv
 cases h:wantedE all τ o<;>simp only [opsE,h,zct,zcf]<;>rfl
theorem ze6 [Sym] (hL:L.Ok P) (hS:LkS L) {all:List Oper} {o:Oper} {ro:Bool} {sl:List Tmp} {rest:List (Oper×Bool×List Tmp)} {τ:Tm} {st:SS} {K:Tm→SS→Option α} {r:α} (hro:ro=true→sl=[]) (hsl:sl≠[]→o.guard=none) (h:zaN P L (cS P L) all ((o,ro,sl)::rest) τ st K=some r):
  ∃ v τ1 st',zaN P L (cS P L) all rest (τ1.put o.dst v) st' K=some r∧st'.lim=st.lim∧τ1.n=τ.n∧∃ n,∀ m,n≤m→∀ base log τE,TLe τ τE→TLe τ1 τE∧∃ kd log',
   zbv P L (zam L (zai P L m)) all τE o (st.toE base log)=some (v,kd,st'.toE base log')∧zaG (cond ro st.next st.lim) base log log'∧(blindOp L o.op=true→kd=.blind)∧(genOp o.op=false→log'=log)∧(ro=false→sl≠[]→zc6 L τE o sl):=by
 have run:∀ τ1:Tm,τ1.n=τ.n→(cond ro
   (match (generalizing:=false) sl with
   | []=>opS P L (cS P L) (zcG L τ1) o (st.ro st.next) fun v st'=>zaN P L (cS P L) all rest (τ1.put o.dst v) (st'.ro st.lim) K
   | t::_=>cond (zds all τ1.n) ((τ1.get? t).bind fun v=>(barS L st v).bind fun b=>opS P L (cS P L) (zcG L τ1) o (st.frz b) fun v st'=>zaN P L (cS P L) all rest (τ1.put o.dst v) (st'.unfrz b) K) none)
   (zdS L τ1 o sl (opS P L (cS P L) (zcG L τ1) o st fun v st=>zaN P L (cS P L) all rest (τ1.put o.dst v) st K)))=some r→
   (∀ τE,TLe τ τE→wantedE all τE o=true∧TLe τ1 τE∨¬ TLe τ1 τE)→(∀ τE,TLe τ τE→TLe τ1 τE→wantedE all τE o=true)→(hle:∀ τE,TLe τ τE→TLe τ1 τE)→
   ∃ v τ1 st',zaN P L (cS P L) all rest (τ1.put o.dst v) st' K=some r∧st'.lim=st.lim∧τ1.n=τ.n∧∃ n,∀ m,n≤m→∀ base log τE,TLe τ τE→TLe τ1 τE∧∃ kd log',
   zbv P L (zam L (zai P L m)) all τE o (st.toE base log)=some (v,kd,st'.toE base log')∧zaG (cond ro st.next st.lim) base log log'∧(blindOp L o.op=true→kd=.blind)∧(genOp o.op=false→log'=log)∧(ro=false→sl≠[]→zc6 L τE o sl):=by
  intro τ1 hn hrun _ hw hle
  cases ro with
  | true=>
    have hs0:=hro rfl
    subst hs0
    simp only [zct] at hrun ⊢
    obtain ⟨v,st',hK,hl,n,hop⟩:=zdT hL hS zdw hrun
    refine ⟨v,τ1,st'.ro st.lim,hK,rfl,hn,n,fun m hm base log τE ht=>⟨hle τE ht,?_⟩⟩
    obtain ⟨kd,log',h1,h2,h3,h4⟩:=hop m hm base log (rho L τE) (zcq (hle τE ht))
    refine ⟨kd,log',?_,h2,h3,h4,fun h=>by cases h⟩
    unfold zbv
    rw [hw τE ht (hle τE ht)]
    exact h1
  | false=>
    simp only [zcf] at hrun ⊢
    obtain ⟨hrun,hap⟩:=zem sl hrun
    obtain ⟨v,st',hK,hl,n,hop⟩:=zdT hL hS zdw hrun
    refine ⟨v,τ1,st',hK,hl,hn,n,fun m hm base log τE ht=>⟨hle τE ht,?_⟩⟩
    obtain ⟨kd,log',h1,h2,h3,h4⟩:=hop m hm base log (rho L τE) (zcq (hle τE ht))
    refine ⟨kd,log',?_,h2,h3,h4,fun _ hne=>?_⟩
    rotate_left
    ·obtain ⟨ty,a,x,q1,j,k,q2,q3⟩:=hap hne τE (hle τE ht)
     exact ⟨ty,a,x,q1,j,k,q2,q3⟩
    unfold zbv
    rw [hw τE ht (hle τE ht)]
    exact h1
 have skip:∀ τ1:Tm,τ1.n=τ.n→zaN P L (cS P L) all rest (τ1.put o.dst undef) st K=some r→(∀ τE,TLe τ τE→wantedE all τE o=false)→(hle:∀ τE,TLe τ τE→TLe τ1 τE)→(o.guard≠none)→
   ∃ v τ1 st',zaN P L (cS P L) all rest (τ1.put o.dst v) st' K=some r∧st'.lim=st.lim∧τ1.n=τ.n∧∃ n,∀ m,n≤m→∀ base log τE,TLe τ τE→TLe τ1 τE∧∃ kd log',
   zbv P L (zam L (zai P L m)) all τE o (st.toE base log)=some (v,kd,st'.toE base log')∧zaG (cond ro st.next st.lim) base log log'∧(blindOp L o.op=true→kd=.blind)∧(genOp o.op=false→log'=log)∧(ro=false→sl≠[]→zc6 L τE o sl):=by
  intro τ1 hn hrun hw hle hgn
  refine ⟨undef,τ1,st,hrun,rfl,hn,0,fun m _ base log τE ht=>⟨hle τE ht,.blind,log,?_,.refl _ _ _,fun _=>rfl,fun _=>rfl,fun _ hne=>absurd (hsl hne) hgn⟩⟩
  unfold zbv
  rw [hw τE ht];rfl
 unfold zaN at h
 simp only at h
 cases hg:o.guard with
 | none=>
   rw [hg] at h
   simp only at h
   have hw:∀ τE,wantedE all τE o=true:=fun τE=>by unfold wantedE;rw [hg]
   exact run τ rfl h (fun τE ht=>.inl ⟨hw τE,ht⟩) (fun τE _ _=>hw τE) fun _ ht=>ht
 | some jw=>
   obtain ⟨j,want⟩:=jw
   rw [hg] at h
   simp only at h
   split at h
   ·rename_i d hd
    simp only [zbi] at h
    obtain ⟨v,hv,h⟩:=h
    have hwd:∀ τE,wantedE all τE o=match τE.get d with | .bool b=>b==want | _=>false:=fun τE=>by unfold wantedE;simp only [hg,hd];rfl
    have hgd:∀ τE,TLe τ τE→τE.get d=v:=fun τE ht=>zc5 (ht.2 d v hv)
    split at h
    ·rename_i b
     have hle:∀ τE,TLe τ τE→TLe (τ.put (some d) (.bool b)) τE:=fun τE ht=>ht.same (ht.2 d _ hv)
     have hw:∀ τE,TLe τ τE→wantedE all τE o=(b==want):=fun τE ht=>by rw [hwd,hgd τE ht]
     cases b<;>cases want<;>simp only [zct,zcf] at h
     ·exact run _ (zbm ..) h (fun τE ht=>.inl ⟨hw τE ht,hle τE ht⟩) (fun τE ht _=>hw τE ht) hle
     ·exact skip _ (zbm ..) h (fun τE ht=>hw τE ht) hle (by rw [hg];simp)
     ·exact skip _ (zbm ..) h (fun τE ht=>hw τE ht) hle (by rw [hg];simp)
     ·exact run _ (zbm ..) h (fun τE ht=>.inl ⟨hw τE ht,hle τE ht⟩) (fun τE ht _=>hw τE ht) hle
    ·rename_i hnb
     refine skip τ rfl h (fun τE ht=>?_) (fun _ ht=>ht) (by rw [hg];simp)
     rw [hwd,hgd τE ht]
     cases v<;>first | rfl | exact absurd rfl (hnb _)
   ·cases h
theorem zic {st:SS} {v:Value} {b:Nat×List Value} (h:barS L st v=some b):(∃ k,v=.pointer (some ⟨b.1,k,none⟩))∧st.mem.get b.1=some (.cells b.2 0)∧b.1<st.next∧L.glob b.1=false:=by
 unfold barS at h
 simp only [zbi] at h
 obtain ⟨p,hp,h⟩:=h
 have hv:v=.pointer (some ⟨p.1,p.2,none⟩):=by
  unfold addr? at hp
  split at hp<;>first | (cases hp;rfl) | (cases hp;done)
 split at h
 ·rename_i c hc
  obtain ⟨h1,h2⟩:=zaj h
  cases h2
  rw [zae,Nat.blt_eq] at h1
  exact ⟨⟨_,hv⟩,hc,h1.1,by simpa using h1.2⟩
 ·cases h
theorem zid [Sym] (hL:L.Ok P) (hS:LkS L) {all:List Oper} {o:Oper} {t:Tmp} {sl:List Tmp} {rest:List (Oper×Bool×List Tmp)} {τ:Tm} {st:SS} {K:Tm→SS→Option α} {r:α} (hg:o.guard=none) (h:zaN P L (cS P L) all ((o,true,t::sl)::rest) τ st K=some r):
  zds all τ.n=true∧∃ v st' i k,zaN P L (cS P L) all rest (τ.put o.dst v) st' K=some r∧st'.lim=st.lim∧τ.t.get t=some (.pointer (some ⟨i,k,none⟩))∧∃ n,∀ m,n≤m→∀ base τE,TLe τ τE→∃ kd log',
   zbv P L (zam L (zai P L m)) all τE o (st.toE base [])=some (v,kd,st'.toE base log')∧zaG st.lim base [] log'∧(blindOp L o.op=true→kd=.blind)∧(genOp o.op=false→log'=[])∧i∉log':=by
 unfold zaN at h
 simp only [hg,zct] at h
 obtain ⟨hd,h⟩:=zaj h
 simp only [zbi] at h
 obtain ⟨w,hw,b,hb,h⟩:=h
 obtain ⟨⟨k,rfl⟩,b2,b3,b4⟩:=zic hb
 obtain ⟨v,st',hK,hl,n,hop⟩:=zdT hL hS zdw h
 refine ⟨hd,v,st'.unfrz b,b.1,k,hK,hl,hw,n,fun m hm base τE ht=>?_⟩
 obtain ⟨kd,log',h1,h2,h3,h4⟩:=hop m hm base [] (rho L τE) (zcq ht)
 have hfz:Fz b.1 b.2 (st.toE base []) ((st.frz b).toE base []):=⟨rfl,b2,rfl,rfl,rfl,b3,by simp⟩
 have hcall:zcI b.1 b.2 (zam L (zai P L m)):=zgJ b4 fun k τ s t h=>zgK b4 m k τ s t h
 obtain ⟨s',h5,h6⟩:=zhc hcall _ o hfz h1
 have hs:s'=(st'.unfrz b).toE base log':=by
  have e1:st'.mem=s'.mem.upd b.1 (some (.table b.2)):=h6.mem
  have e2:st'.mem.upd b.1 (some (.cells b.2 0))=s'.mem:=by rw [e1,PT.upd_upd,PT.upd_get _ _ _ h6.row]
  have e3:st'.next=s'.next:=h6.next
  have e4:base=s'.base:=h6.base
  have e5:log'=s'.log:=h6.log
  cases s' with
  | mk m1 n1 b1 l1=>
    simp only at e2 e3 e4 e5
    show _=St.mk (st'.mem.upd b.1 (some (.cells b.2 0))) st'.next base log'
    rw [e2,e3,e4,e5]
 refine ⟨kd,log',?_,h2,h3,h4,?_⟩
 ·unfold zbv
  have hwt:wantedE all τE o=true:=by unfold wantedE;rw [hg]
  rw [hwt,zct,h5,hs]
 ·have:=h6.nl
  rw [hs] at this
  exact this
theorem zfI [Sym] (hL:L.Ok P) (hS:LkS L) {all:List Oper}:∀ (l:List Oper) (τ:Tm) (st:SS) (K:Tm→SS→Option α) (r:α),zaN P L (cS P L) all (l.map fun o=>(o,false,[])) τ st K=some r→
  ∃ τ' st',K τ' st'=some r∧st'.lim=st.lim∧τ'.n=τ.n∧∃ n,∀ m,n≤m→∀ base log τE,TLe τ τE→∃ τE' log',opsE P L (zam L (zai P L m)) all l τE (st.toE base log)=some (τE',st'.toE base log')∧TLe τ' τE'∧zaG st.lim base log log'
 | [],τ,st,K,r,h=>⟨τ,st,h,rfl,rfl,0,fun m _ base log τE ht=>⟨τE,log,rfl,ht,.refl _ _ _⟩⟩
 | o::l,τ,st,K,r,h=>by
   obtain ⟨v,τ1,st1,hK,hl,hn,n,hstep⟩:=ze6 hL hS (ro:=false) (sl:=[]) (rest:=l.map fun o=>(o,false,[])) (fun _=>rfl) (fun h=>absurd rfl h) h
   obtain ⟨τ',st',hK',hl',hn',n',hrest⟩:=zfI hL hS l _ st1 K r hK
   refine ⟨τ',st',hK',hl'.trans hl,by rw [hn',zbm,hn],max n n',fun m hm base log τE ht=>?_⟩
   obtain ⟨ht1,kd,log1,h1,h2,_,_,_⟩:=hstep m (zlt (Nat.le_max_left _ _) hm) base log τE ht
   obtain ⟨τE',log',h3,h4,h5⟩:=hrest m (zlt (Nat.le_max_right _ _) hm) base log1 (τE.put o.dst v) (ht1.put _ _)
   refine ⟨τE',log',?_,h4,?_⟩
   ·rw [zhP,h1];exact h3
   ·exact zaG.trans h2 (by rw [hl] at h5;exact h5)
theorem zen:∀ (l:List Oper) (ps full:List Nat),zah l ps=full→ps=full.take ps.length∧full.length=ps.length+l.length∧
  ∀ (i:Nat) o,l[i]?=some o→full[ps.length+i]?=some (zd2 (full.take (ps.length+i)) o||| (1<<<(ps.length+i)))
 | [],ps,full,h=>by
   simp only [zah] at h;subst h
   exact ⟨by simp,by simp,fun i o hi=>by simp at hi⟩
 | o::l,ps,full,h=>by
   simp only [zah] at h
   obtain ⟨h1,h2,h3⟩:=zen l _ full h
   simp only [List.length_append,List.length_singleton] at h1 h2 h3
   have hps:ps=full.take ps.length:=by
    have h4:=congrArg (List.take ps.length) h1
    rw [List.take_left' rfl,List.take_take,Nat.min_eq_left (by omega)] at h4
    exact h4
   refine ⟨hps,by simp [h2];omega,fun i o' hi=>?_⟩
   cases i with
   | zero=>
     simp at hi;subst hi
     have hlt:ps.length<full.length:=by omega
     have:(full.take (ps.length+1))[ps.length]?=some (zd2 ps o||| (1<<<ps.length)):=by rw [← h1];simp
     rw [List.getElem?_take_of_lt (by omega)] at this
     simp only [Nat.add_zero]
     rw [this,← hps]
   | succ i=>
     have:=h3 i o' (by simpa using hi)
     rw [show ps.length+(i+1)=ps.length+1+i by omega]
     exact this
structure RecOk (L:Lk) (ops:List Oper) (full:List Nat) (k:Nat) (x:Rec):Prop where
 o:ops[k]?=some x.o
 preds:full[k]?=some x.preds
 ro:mustRo L ops full k=true→softOk L ops full k=false→barT L ops full k=none→x.log=[]
 blind:blindOp L x.o.op=true→x.kd=.blind
 gen:genOp x.o.op=false→x.log=[]
def LdOk (L:Lk) (ops:List Oper) (τE:Tm) (j k:Nat) (x:Rec):Prop:=∀ t,zcp L x.o=some t→unwr ops t k j=true→x.kd=.blind∨∃ i,zd7 (τE.get t)=some i∧x.kd=.read i
def zc7 (ops:List Oper) (τE:Tm) (k:Nat) (x:Rec):Prop:=zds ops τE.n=true→∀ t,zev ops k=some t→∃ i kk,τE.get t=.pointer (some ⟨i,kk,none⟩)∧x.kd=.read i
def zd8 (L:Lk) (ops:List Oper) (full:List Nat) (τE:Tm) (k:Nat) (x:Rec):Prop:=mustRo L ops full k=true→softOk L ops full k=false→∀ t,barT L ops full k=some t→zds ops τE.n=true∧∀ i kk,τE.get t=.pointer (some ⟨i,kk,none⟩)→i∉x.log
def zgd (ops:List Oper) (τE:Tm) (j:Nat):Prop:=zds ops τE.n=true→∀ a t,zbq ops j a=some t→a=t∨∃ i k k',τE.get a=.pointer (some ⟨i,k,none⟩)∧τE.get t=.pointer (some ⟨i,k',none⟩)
def zgf (L:Lk) (ops:List Oper) (full:List Nat) (τE:Tm) (j:Nat) (recs:List Rec):Prop:=recs.length=j∧(∀ (k:Nat) x,recs[k]?=some x→RecOk L ops full k x∧LdOk L ops τE j k x∧zc7 ops τE k x∧zd8 L ops full τE k x)∧zgd ops τE j
theorem zdU {ops:List Oper} {k:Nat} {a t:Tmp} (h:zbq ops k a=some t) {j:Nat} {o:Oper} (ho:ops[j]?=some o):o.dst≠some t:=by
 unfold zbq at h
 simp only [zbi] at h
 obtain ⟨u,_,h⟩:=h
 obtain ⟨h1,h2⟩:=zaj h
 cases h2
 have:=List.all_eq_true.1 h1 o (zmg ho)
 intro e
 rw [e] at this
 simp at this
theorem zgg {ops:List Oper} {k:Nat} {t:Tmp} (h:zev ops k=some t) {j:Nat} {o:Oper} (ho:ops[j]?=some o):o.dst≠some t:=by
 unfold zev at h
 split at h
 ·simp only [zbi] at h
  obtain ⟨a,_,h⟩:=h
  exact zdU h ho
 ·cases h
theorem zcQ {ops:List Oper} {full:List Nat} {j:Nat} {t:Tmp} (h:barT L ops full j=some t):(∃ o,ops[j]?=some o∧o.guard=none∧genOp o.op=true∧blindOp L o.op=false)∧∀ k,k≠j→partner full j k=true→∀ o,ops[k]?=some o→blindOp L o.op=false→zev ops k=some t:=by
 unfold barT at h
 split at h
 ·rename_i o ho
  split at h
  ·rename_i f args aty hop hgd
   obtain ⟨_,h⟩:=zaj h
   refine ⟨⟨o,ho,hgd,by rw [hop];rfl,by rw [hop];rfl⟩,fun k hk hp o' ho' hb=>?_⟩
   split at h
   ·rename_i u r hl
    obtain ⟨h1,h2⟩:=zaj h
    cases h2
    have hmem:zev ops k∈(List.range ops.length).filterMap (barO L ops full j):=by
     refine List.mem_filterMap.2 ⟨k,List.mem_range.2 (List.getElem?_eq_some_iff.1 ho').1,?_⟩
     have e1:Nat.beq k j=false:=by rw [zac];simp [hk]
     unfold barO
     rw [ho']
     simp only [e1,hp,hb,znf,Bool.and_self,zct]
    rw [hl] at hmem
    rcases List.mem_cons.1 hmem with e | e
    ·exact e
    ·have:=List.all_eq_true.1 h1 _ e
     simpa using this
   ·cases h
  ·cases h
 ·cases h
theorem zfJ {ops:List Oper} {t:Tmp} {k j:Nat} (hk:k≤j) {o:Oper} (ho:ops[j]?=some o) (h:unwr ops t k (j+1)=true):unwr ops t k j=true∧o.dst≠some t:=by
 unfold unwr at h ⊢
 have e:(ops.drop k).take (j+1-k)=(ops.drop k).take (j-k)++[o]:=by
  rw [show j+1-k=(j-k)+1 by omega,List.take_add_one,List.getElem?_drop,show k+(j-k)=j by omega,ho]
  rfl
 rw [e,List.all_append,zae] at h
 refine ⟨h.1,fun hc=>?_⟩
 have h2:=h.2
 simp only [List.all_cons,List.all_nil,Bool.and_true,hc,beq_self_eq_true,zct] at h2
 cases h2
theorem zbn {τ:Tm} {d:Option Tmp} {v:Value} {t:Tmp} (h:d≠some t):(τ.put d v).get t=τ.get t:=by
 cases d with
 | none=>rfl
 | some d=>
   have hd:¬ t=d:=fun e=>h (by rw [e])
   unfold Tm.put Tm.get
   simp only
   cases Nat.blt d τ.n with
   | false=>rfl
   | true=>
     simp only [zct,PT.get_upd]
     rw [if_neg (fun e=>hd (by first | exact e | exact e.symm))]
theorem zgL {cf:CallF} {ρ:Operand→Option Value} {o:Oper} {st st':St} {v:Value} {kd:Kd} {ty:TypeId} {a:Operand} (ho:o.op=.load ty a) (h:opE P L cf ρ o st=some (v,kd,st')):
  ∃ i k,ρ a=some (.pointer (some ⟨i,k,none⟩))∧kd=.read i:=by
 have p1:zad P L ρ o=none:=by unfold zad;rw [ho]
 have p2:zak L ρ o=none:=by unfold zak;rw [ho]
 unfold opE at h
 rw [p1,p2] at h
 simp only at h
 unfold zav at h
 rw [ho] at h
 simp only at h
 cases ha:ρ a with
 | none=>
   rw [ha] at h
   simp only [Option.bind_none] at h
   unfold zay at h
   rw [ho] at h
   simp at h
 | some w=>
   rw [ha] at h
   simp only [zob] at h
   cases hw:addr? w with
   | none=>
     rw [hw] at h
     simp only [Option.map_none] at h
     unfold zay at h
     rw [ho] at h
     simp at h
   | some p=>
     rw [hw] at h
     simp only [Option.map_some,zbi,zmi,zpj] at h
     obtain ⟨ob,_,v',_,_,hk,_⟩:=h
     have hp:w=.pointer (some ⟨p.1,p.2,none⟩):=by
      unfold addr? at hw
      split at hw<;>first | (cases hw;rfl) | (cases hw;done)
     exact ⟨p.1,p.2,by rw [hp],hk.symm⟩
theorem zhe {α:Type} {b:Bool} {x:α} {y:Option α} (h:cond b none y=some x):y=some x:=by cases b<;>first | exact h | cases h
theorem zie {cf:CallF} {τ:Tm} {o:Oper} {st st':St} {v:Value} {kd:Kd} {ty:TypeId} {t:Tmp} {lo hi:Option Operand} (ho:o.op=.slice ty (.tmp t) lo hi none) (h:opE P L cf (rho L τ) o st=some (v,kd,st')):
  kd=.blind∨∃ i,zd7 (τ.get t)=some i∧kd=.read i:=by
 unfold opE at h
 split at h
 ·simp only [zsj,zpj] at h;exact .inl h.2.1.symm
 ·split at h
  ·simp only [zsj,zpj] at h;exact .inl h.2.1.symm
  ·split at h
   ·rename_i i g hrd
    simp only [zbi,zmi,zpj] at h
    obtain ⟨ob,_,v',_,_,hk,_⟩:=h
    refine .inr ⟨i,?_,hk.symm⟩
    unfold zav at hrd
    rw [ho] at hrd
    simp only [zbi] at hrd
    obtain ⟨a,ha,lo',_,hi',_,hrd⟩:=hrd
    have ha':τ.get t=a:=Option.some.inj ha
    rw [ha']
    split at hrd
    ·split at hrd
     ·simp only [zbi,zmi,zpj] at hrd
      obtain ⟨_,_,_,_,hi2,_⟩:=hrd
      rw [← hi2];rfl
     ·cases hrd
    ·cases hrd
   ·simp only [zmi,zpj] at h
    obtain ⟨⟨v',s'⟩,hg,_⟩:=h
    unfold zay at hg
    rw [ho] at hg
    simp at hg
theorem zhQ {cf:CallF} {ρ:Operand→Option Value} {o:Oper} {st st':St} {v:Value} {kd:Kd} {ty:TypeId} {a x:Operand} (ho:o.op=.store ty a x) (hl:st.log=[]) (h:opE P L cf ρ o st=some (v,kd,st')):
  ∃ i k,ρ a=some (.pointer (some ⟨i,k,none⟩))∧∀ q,q∈st'.log→q=i:=by
 have p1:zad P L ρ o=none:=by unfold zad;rw [ho]
 have p2:zak L ρ o=none:=by unfold zak;rw [ho]
 have p3:zav L ρ o=none:=by unfold zav;rw [ho]
 unfold opE at h
 rw [p1,p2,p3] at h
 simp only [zmi,zpj] at h
 obtain ⟨⟨v',s'⟩,hg,_,_,hs⟩:=h
 simp only at hs
 subst hs
 unfold zay at hg
 rw [ho] at hg
 simp only [zbi] at hg
 obtain ⟨w,hw,u,_,p,hp,n,_,hg⟩:=hg
 have hpw:w=.pointer (some ⟨p.1,p.2,none⟩):=by
  unfold addr? at hp
  split at hp<;>first | (cases hp;rfl) | (cases hp;done)
 refine ⟨p.1,p.2,by rw [hw,hpw],?_⟩
 obtain ⟨_,hg⟩:=zaj hg
 simp only [zmi,zpj] at hg
 obtain ⟨s2,hs2,_,rfl⟩:=hg
 unfold za4 at hs2
 split at hs2
 ·obtain ⟨_,hs2⟩:=zaj hs2
  simp only [zmi] at hs2
  obtain ⟨c',_,rfl⟩:=hs2
  intro q hq
  have hq':q∈st.note p.1:=hq
  unfold St.note at hq'
  rw [hl] at hq'
  cases hb:Nat.blt p.1 st.base with
  | false=>rw [hb] at hq';simp at hq'
  | true=>rw [hb] at hq';simpa using hq'
 ·cases hs2
theorem zfK {ops:Array Oper} {r:Rec}:∀ (recs:List Rec) (k:Nat),(∀ (i:Nat) x,recs[i]?=some x→((r.preds.testBit (k+i)||(zbA x r&&x.o.apart ops r.o))&&(x.o.dst !=r.o.dst||x.o.dst==none))=true)→okWith ops recs k r=true
 | [],k,h=>rfl
 | x::recs,k,h=>by
   have h0:=h 0 x rfl
   have h1:=zfK recs (k+1) fun i y hy=>by rw [show k+1+i=k+(i+1) by omega];exact h (i+1) y (by simpa using hy)
   unfold okWith
   simp only [Nat.add_zero] at h0
   rw [h0,h1];rfl
theorem zif {recs:List Rec} {full:List Nat} {j:Nat} {ops:List Oper} {τE:Tm} (h:zgf L ops full τE j recs) (hj:j≤full.length) (o:Oper):predsE recs o=zd2 (full.take j) o:=by
 unfold predsE zd2
 have:∀ e:Edge,((recs[e.on]?).map (·.preds)).getD 0=((full.take j)[e.on]?).getD 0:=fun e=>by
  by_cases he:e.on<j
  ·have hlt:e.on<recs.length:=by rw [h.1];exact he
   rw [zge hlt]
   have:=(h.2.1 e.on _ (zge hlt)).1.preds
   rw [List.getElem?_take_of_lt he,this];rfl
  ·rw [List.getElem?_eq_none (by rw [h.1];omega),List.getElem?_eq_none (by simp;omega)];rfl
 congr 1
 funext m e
 rw [this e]
theorem ziE {ops:List Oper} {full:List Nat} {j k:Nat} {x r:Rec} {τE:Tm} (hkj:k<j) (hlen:full.length=ops.length) (hx:RecOk L ops full k x) (hxl:LdOk L ops τE j k x) (hxr:zc7 ops τE k x) (hxb:zd8 L ops full τE k x) (hr:RecOk L ops full j r) (hrr:zc7 ops τE j r) (hrb:zd8 L ops full τE j r)
  (hsoft:softOk L ops full j=true→∀ t i,t∈zdr L ops full j→zd7 (τE.get t)=some i→i∉r.log) (hu:r.preds.testBit k=false):zbA x r=true:=by
 have hjl:j<ops.length:=(List.getElem?_eq_some_iff.1 hr.o).1
 have hkl:k<ops.length:=(List.getElem?_eq_some_iff.1 hx.o).1
 have pkj:partner full k j=true:=by
  unfold partner
  have:Nat.blt j k=false:=by rw [← Bool.not_eq_true,Nat.blt_eq];omega
  rw [this,hr.preds]
  simp [hu]
 have pjk:partner full j k=true:=by
  unfold partner
  have:Nat.blt k j=true:=by rw [Nat.blt_eq];omega
  rw [this,hr.preds]
  simp [hu]
 have h1:x.log=[]∨r.kd=.blind∨∃ i,r.kd=.read i∧i∉x.log:=by
  cases hg:genOp x.o.op with
  | false=>exact .inl (hx.gen hg)
  | true=>
    cases hb:blindOp L r.o.op with
    | true=>exact .inr (.inl (hr.blind hb))
    | false=>
      have hm:mustRo L ops full k=true:=by
       unfold mustRo
       rw [hx.o]
       simp only [hg,Bool.true_and,List.any_eq_true,List.mem_range,zae]
       exact ⟨j,hjl,⟨by rw [zac];simp;omega,pkj⟩,by rw [hr.o];simp [hb]⟩
      have hs:softOk L ops full k=false:=by
       cases hs:softOk L ops full k with
       | false=>rfl
       | true=>
         exfalso
         unfold softOk at hs
         rw [zae] at hs
         have:=List.all_eq_true.1 hs.2 j (List.mem_range.2 hjl)
         have e1:Nat.beq j k=false:=by rw [zac];simp;omega
         have e2:Nat.blt j k=false:=by rw [← Bool.not_eq_true,Nat.blt_eq];omega
         rw [e1,pkj,hr.o] at this
         simp only [hb,znt,Bool.false_or,ze1,hr.o,e2,Bool.false_and,zcf] at this
         cases hl:zcp L r.o<;>rw [hl] at this<;>simp at this
      cases hbt:barT L ops full k with
      | none=>exact .inl (hx.ro hm hs hbt)
      | some t=>
        obtain ⟨hd,hno⟩:=hxb hm hs t hbt
        obtain ⟨i,kk,e1,e2⟩:=hrr hd t ((zcQ hbt).2 j (by omega) pkj _ hr.o hb)
        exact .inr (.inr ⟨i,e2,hno i kk e1⟩)
 have h2:r.log=[]∨x.kd=.blind∨∃ i,x.kd=.read i∧i∉r.log:=by
  cases hg:genOp r.o.op with
  | false=>exact .inl (hr.gen hg)
  | true=>
    cases hb:blindOp L x.o.op with
    | true=>exact .inr (.inl (hx.blind hb))
    | false=>
      have hm:mustRo L ops full j=true:=by
       unfold mustRo
       rw [hr.o]
       simp only [hg,Bool.true_and,List.any_eq_true,List.mem_range,zae]
       exact ⟨k,hkl,⟨by rw [zac];simp;omega,pjk⟩,by rw [hx.o];simp [hb]⟩
      cases hs:softOk L ops full j with
      | false=>
        cases hbt:barT L ops full j with
        | none=>exact .inl (hr.ro hm hs hbt)
        | some t=>
          obtain ⟨hd,hno⟩:=hrb hm hs t hbt
          obtain ⟨i,kk,e1,e2⟩:=hxr hd t ((zcQ hbt).2 k (by omega) pjk _ hx.o hb)
          exact .inr (.inr ⟨i,e2,hno i kk e1⟩)
      | true=>
        have hs0:=hs
        unfold softOk at hs
        rw [zae] at hs
        have:=List.all_eq_true.1 hs.2 k (List.mem_range.2 hkl)
        have e1:Nat.beq k j=false:=by rw [zac];simp;omega
        rw [e1,pjk,hx.o] at this
        simp only [hb,znt,Bool.false_or] at this
        obtain ⟨t,ht⟩:=Option.isSome_iff_exists.1 this
        have hmem:t∈zdr L ops full j:=List.mem_filterMap.2 ⟨k,List.mem_range.2 hkj,ht⟩
        unfold ze1 at ht
        rw [hx.o] at ht
        simp only [zbi] at ht
        obtain ⟨t',ht',ht⟩:=ht
        obtain ⟨hc,ht⟩:=zaj ht
        cases ht
        rw [zae,zae] at hc
        rcases hxl t ht' hc.2 with q | ⟨i,q1,q2⟩
        ·exact .inr (.inl q)
        ·exact .inr (.inr ⟨i,q2,hsoft hs0 t i hmem q1⟩)
 unfold zbA
 rcases h1 with h1 | h1 | ⟨i1,h1,h1'⟩<;>rcases h2 with h2 | h2 | ⟨i,h2,h3⟩<;>simp_all
theorem zhR {ops:List Oper} {τE:Tm} {j:Nat} {o:Oper} {v:Value} {cf:CallF} {st st1:St} {kd:Kd} (ho:ops[j]?=some o) (h:zgd ops τE j) (hop:o.guard=none→opE P L cf (rho L τE) o st=some (v,kd,st1)):zgd ops (τE.put o.dst v) (j+1):=by
 intro hd a t hat
 rw [zbm] at hd
 have hunw:=zdU hat ho
 have ht:(τE.put o.dst v).get t=τE.get t:=zbn hunw
 have hall:=hat
 unfold zbq at hat
 have hrev:(ops.take (j+1)).reverse=o::(ops.take j).reverse:=by
  rw [List.take_add_one,ho,List.reverse_append];rfl
 rw [hrev,List.find?_cons] at hat
 cases hb:o.dst==some a with
 | true=>
   have hda:o.dst=some a:=by simpa using hb
   rw [hb] at hat
   simp only [zbi] at hat
   obtain ⟨u,hu,hat⟩:=hat
   obtain ⟨_,hat⟩:=zaj hat
   cases hat
   split at hu
   ·rename_i s t' f hof hgd
    cases hu
    have hr:=hop hgd
    have hlt:Nat.blt a τE.n=true:=by
     have:=List.all_eq_true.1 hd o (zmg ho)
     rw [hda] at this
     exact this
    have hga:(τE.put o.dst v).get a=v:=by
     rw [hda]
     unfold Tm.put Tm.get
     simp only [hlt,zct,PT.get_upd,if_true,Option.getD_some]
    unfold opE at hr
    cases hp:zad P L (rho L τE) o with
    | none=>
      have p2:zak L (rho L τE) o=none:=by unfold zak;rw [hof]
      have p3:zav L (rho L τE) o=none:=by unfold zav;rw [hof]
      have p4:zay L cf (rho L τE) o st=none:=by unfold zay;rw [hof]
      rw [hp,p2,p3,p4] at hr
      cases hr
    | some w=>
      rw [hp] at hr
      cases hr
      unfold zad at hp
      rw [hof] at hp
      have hrt:rho L τE (.tmp t)=some (τE.get t):=rfl
      simp only [hrt,zob,zbi] at hp
      obtain ⟨p,hp1,hp⟩:=hp
      have hpw:τE.get t=.pointer (some ⟨p.1,p.2,none⟩):=by
       unfold addr? at hp1
       split at hp1<;>first | (cases hp1;assumption) | (cases hp1;done)
      split at hp
      ·simp only [zbi] at hp
       obtain ⟨fd,_,z,_,hp⟩:=hp
       cases hz:Nat.beq z 0 with
       | true=>rw [hz] at hp;cases hp
       | false=>
         rw [hz] at hp
         cases hp
         exact .inr ⟨p.1,_,p.2,hga,by rw [ht];exact hpw⟩
      ·cases hp
   ·cases hu
 | false=>
   have hda:o.dst≠some a:=by simpa using hb
   rw [hb] at hat
   have hold:zbq ops j a=some t:=by unfold zbq;exact hat
   rcases h hd a t hold with rfl | ⟨i,k,k',e1,e2⟩
   ·exact .inl rfl
   ·exact .inr ⟨i,k,k',by rw [zbn hda];exact e1,by rw [ht];exact e2⟩
theorem zgh [Sym] (hL:L.Ok P) (hS:LkS L) {ops:Array Oper} (hok:ze0 ops=true):∀ (rest:List Oper) (j:Nat),rest=ops.toList.drop j→∀ (τ:Tm) (st:SS) (K:Tm→SS→Option α) (r:α),
  zaN P L (cS P L) ops.toList (rest.zip ((roL L ops.toList).drop j)) τ st K=some r→
  ∃ τ' st',K τ' st'=some r∧st'.lim=st.lim∧τ'.n=τ.n∧∃ n,∀ m,n≤m→∀ base log τE recs,TLe τ τE→zgf L ops.toList (zah ops.toList []) τE j recs→
   ∃ τE' log',zaY P L (zam L (zai P L m)) ops rest recs τE (st.toE base log)=some (τE',st'.toE base log')∧TLe τ' τE'∧zaG st.lim base log log'
 | [],j,hr,τ,st,K,r,h=>⟨τ,st,by simpa [zaN] using h,rfl,rfl,0,fun m _ base log τE recs ht _=>⟨τE,log,rfl,ht,.refl _ _ _⟩⟩
 | o::rest,j,hr,τ,st,K,r,h=>by
   have hjl:j<ops.toList.length:=by
    have:=congrArg List.length hr
    simp only [List.length_cons,List.length_drop] at this
    omega
   have ho:ops.toList[j]?=some o:=by
    have:=congrArg (·[0]?) hr
    simp only [zgz,List.getElem?_drop,Nat.add_zero] at this
    exact this.symm
   have hrest:rest=ops.toList.drop (j+1):=by
    have:=congrArg List.tail hr
    simpa using this
   obtain ⟨_,hfl,hspec⟩:=zen ops.toList [] _ rfl
   simp only [List.length_nil,Nat.zero_add] at hfl hspec
   have hro:(roL L ops.toList).drop j=zau L ops.toList (zah ops.toList []) j::(roL L ops.toList).drop (j+1):=by
    have hlen:(roL L ops.toList).length=ops.toList.length:=by simp [roL]
    rw [List.drop_eq_getElem_cons (by omega)]
    congr 1
    simp [roL]
   rw [hro,List.zip_cons_cons] at h
   have hsl:(zau L ops.toList (zah ops.toList []) j).1=false→(zau L ops.toList (zah ops.toList []) j).2≠[]→o.guard=none∧softOk L ops.toList (zah ops.toList []) j=true:=fun hfl hne=>by
    unfold zau at hne hfl
    cases hm:mustRo L ops.toList (zah ops.toList []) j<;>cases hs:softOk L ops.toList (zah ops.toList []) j<;>simp only [hm,hs,zct,zcf] at hne hfl
    ·exact absurd rfl hne
    ·exact absurd rfl hne
    ·cases hfl
    ·refine ⟨?_,rfl⟩
     unfold softOk at hs
     rw [zae,ho] at hs
     have h1:=hs.1
     simp only at h1
     unfold zfp at h1
     split at h1
     ·rename_i hgn;exact hgn
     ·cases h1
   have hone:∃ v τ1 st1,zaN P L (cS P L) ops.toList (rest.zip ((roL L ops.toList).drop (j+1))) (τ1.put o.dst v) st1 K=some r∧st1.lim=st.lim∧τ1.n=τ.n∧∃ n,∀ m,n≤m→∀ τE,TLe τ τE→TLe τ1 τE∧∃ kd log1,
     zbv P L (zam L (zai P L m)) ops.toList τE o (st.toE st.next [])=some (v,kd,st1.toE st.next log1)∧zaG (cond ((zau L ops.toList (zah ops.toList []) j).1&&(zau L ops.toList (zah ops.toList []) j).2.isEmpty) st.next st.lim) st.next [] log1∧(blindOp L o.op=true→kd=.blind)∧(genOp o.op=false→log1=[])∧
     ((zau L ops.toList (zah ops.toList []) j).1=false→(zau L ops.toList (zah ops.toList []) j).2≠[]→zc6 L τE o (zau L ops.toList (zah ops.toList []) j).2)∧
     (mustRo L ops.toList (zah ops.toList []) j=true→softOk L ops.toList (zah ops.toList []) j=false→∀ t,barT L ops.toList (zah ops.toList []) j=some t→zds ops.toList τE.n=true∧∀ i kk,τE.get t=.pointer (some ⟨i,kk,none⟩)→i∉log1):=by
    cases hbar:(zau L ops.toList (zah ops.toList []) j).1&&!(zau L ops.toList (zah ops.toList []) j).2.isEmpty with
    | true=>
      have hfl:∃ t,mustRo L ops.toList (zah ops.toList []) j=true∧barT L ops.toList (zah ops.toList []) j=some t∧zau L ops.toList (zah ops.toList []) j=(true,[t]):=by
       unfold zau at hbar ⊢
       cases hm:mustRo L ops.toList (zah ops.toList []) j<;>cases hs:softOk L ops.toList (zah ops.toList []) j<;>simp only [hm,hs,zct,zcf] at hbar ⊢
       ·cases hbar
       ·cases hbar
       ·cases hbt:barT L ops.toList (zah ops.toList []) j with
        | none=>rw [hbt] at hbar;cases hbar
        | some t=>exact ⟨t,trivial,rfl,rfl⟩
       ·cases hbar
      obtain ⟨t,_,hbt,hf⟩:=hfl
      obtain ⟨⟨o',ho',hgd,hgen,_⟩,_⟩:=zcQ hbt
      rw [ho] at ho'
      cases ho'
      rw [hf] at h ⊢
      obtain ⟨hd,v,st1,i,k,hK,hl,hget,n,hst⟩:=zid hL hS hgd h
      refine ⟨v,τ,st1,hK,hl,rfl,n,fun m hm τE ht=>⟨ht,?_⟩⟩
      obtain ⟨kd,log1,q1,q2,q3,q4,q5⟩:=hst m hm st.next τE ht
      refine ⟨kd,log1,q1,q2,q3,q4,(fun h=>by cases h),fun _ _ t' ht'=>?_⟩
      rw [hbt] at ht'
      cases ht'
      refine ⟨by rw [ht.1];exact hd,fun i' kk he=>?_⟩
      rw [zc5 (ht.2 _ _ hget)] at he
      cases he
      exact q5
    | false=>
      have hro:(zau L ops.toList (zah ops.toList []) j).1=true→(zau L ops.toList (zah ops.toList []) j).2=[]:=fun h1=>by
       rw [h1,Bool.true_and,Bool.not_eq_false',List.isEmpty_iff] at hbar
       exact hbar
      have hgs:(zau L ops.toList (zah ops.toList []) j).2≠[]→o.guard=none:=fun hne=>by
       cases h1:(zau L ops.toList (zah ops.toList []) j).1 with
       | true=>exact absurd (hro h1) hne
       | false=>exact (hsl h1 hne).1
      obtain ⟨v,τ1,st1,hK,hl,hn,n,hst⟩:=ze6 hL hS hro hgs h
      refine ⟨v,τ1,st1,hK,hl,hn,n,fun m hm τE ht=>?_⟩
      obtain ⟨ht1,kd,log1,q1,q2,q3,q4,q5⟩:=hst m hm st.next [] τE ht
      refine ⟨ht1,kd,log1,q1,?_,q3,q4,q5,fun hm' hs' t ht'=>?_⟩
      ·cases h1:(zau L ops.toList (zah ops.toList []) j).1 with
       | true=>rw [h1] at q2;rw [hro h1];exact q2
       | false=>rw [h1] at q2;exact q2
      ·exfalso
       have hf:zau L ops.toList (zah ops.toList []) j=(true,[t]):=by unfold zau;rw [hm',hs',ht'];rfl
       rw [hf] at hro
       exact absurd (hro rfl) (by simp)
   obtain ⟨v,τ1,st1,hK,hl,hn,n,hstep⟩:=hone
   obtain ⟨τ',st',hK',hl',hn',n',hrec⟩:=zgh hL hS hok rest (j+1) hrest _ st1 K r hK
   refine ⟨τ',st',hK',hl'.trans hl,by rw [hn',zbm,hn],max n n',fun m hm base log τE recs ht hrecs=>?_⟩
   have hjr:=hrecs.1
   subst hjr
   obtain ⟨ht1,kd,log1,h1,h2,h3,h4,h5a,h6a⟩:=hstep m (zlt (Nat.le_max_left _ _) hm) τE ht
   have hlog1:∀ i∈log1,cond ((zau L ops.toList (zah ops.toList []) recs.length).1&&(zau L ops.toList (zah ops.toList []) recs.length).2.isEmpty) st.next st.lim≤i∧i<st.next:=fun i hi=>by
    rcases h2 i hi with h | h
    ·cases h
    ·exact h
   have hnil:mustRo L ops.toList (zah ops.toList []) recs.length=true→softOk L ops.toList (zah ops.toList []) recs.length=false→barT L ops.toList (zah ops.toList []) recs.length=none→log1=[]:=fun hm hs hbt=>by
    rw [List.eq_nil_iff_forall_not_mem]
    intro i hi
    have:=hlog1 i hi
    unfold zau at this
    rw [hm,hs,hbt] at this
    simp only [zct,zcf,List.isEmpty_nil,Bool.and_self] at this
    omega
   have hpe:predsE recs o||| (1<<<recs.length)=zd2 ((zah ops.toList []).take recs.length) o||| (1<<<recs.length):=by rw [zif hrecs (by omega)]
   have hnew:RecOk L ops.toList (zah ops.toList []) recs.length { o,preds:=predsE recs o||| (1<<<recs.length),log:=log1,kd }:=
    ⟨ho,by rw [hpe];exact hspec recs.length o ho,hnil,h3,h4⟩
   have hE1:zbv P L (zam L (zai P L m)) ops.toList τE o (st.toE st.next [])=some (v,kd,st1.toE st.next log1):=h1
   have hplain:o.guard=none→opE P L (zam L (zai P L m)) (rho L τE) o (st.toE st.next [])=some (v,kd,st1.toE st.next log1):=fun hgn=>by
    have hw:wantedE ops.toList τE o=true:=by unfold wantedE;rw [hgn]
    unfold zbv at hE1
    rw [hw] at hE1
    exact hE1
   have hsoft:softOk L ops.toList (zah ops.toList []) recs.length=true→∀ t i,t∈zdr L ops.toList (zah ops.toList []) recs.length→zd7 (τE.get t)=some i→i∉log1:=fun hs t i hmem hget hin=>by
    cases hm':mustRo L ops.toList (zah ops.toList []) recs.length with
    | false=>
      obtain ⟨k,hk,ht⟩:=List.mem_filterMap.1 hmem
      unfold ze1 at ht
      split at ht
      ·rename_i ok hok'
       simp only [zbi] at ht
       obtain ⟨t',hl',ht⟩:=ht
       obtain ⟨hc,_⟩:=zaj ht
       rw [zae,zae] at hc
       have hst:genOp o.op=true:=by
        unfold softOk at hs
        rw [zae,ho] at hs
        have h1:=hs.1
        simp only at h1
        unfold zfp at h1
        split at h1
        ·rename_i e _;rw [e];rfl
        ·cases h1
       have hnb:blindOp L ok.op=false:=by
        unfold zcp at hl'
        split at hl'
        ·rename_i e _;rw [e];rfl
        ·rename_i e _
         rw [e]
         show strT L _=false
         cases hst':strT L _ with
         | true=>rw [hst'] at hl';cases hl'
         | false=>rfl
        ·cases hl'
       have:mustRo L ops.toList (zah ops.toList []) recs.length=true:=by
        unfold mustRo
        rw [ho]
        simp only [hst,Bool.true_and,List.any_eq_true,List.mem_range,zae]
        have hk':=List.mem_range.1 hk
        exact ⟨k,by omega,⟨by rw [zac];simp;omega,hc.1.2⟩,by rw [hok'];simp [hnb]⟩
       rw [this] at hm'
       cases hm'
      ·cases ht
    | true=>
      have hf:zau L ops.toList (zah ops.toList []) recs.length=(false,zdr L ops.toList (zah ops.toList []) recs.length):=by unfold zau;rw [hm',hs];rfl
      have h5b:(zau L ops.toList (zah ops.toList []) recs.length).1=false→(zau L ops.toList (zah ops.toList []) recs.length).2≠[]→zc6 L τE o (zau L ops.toList (zah ops.toList []) recs.length).2:=h5a
      rw [hf] at h5b
      obtain ⟨ty,a,x,q1,jb,kb,q2,q3⟩:=h5b rfl (by intro e;have e':zdr L ops.toList (zah ops.toList []) recs.length=[]:=e;rw [e'] at hmem;cases hmem)
      have hgn:o.guard=none:=(hsl (by rw [hf]) (by rw [hf];intro e;have e':zdr L ops.toList (zah ops.toList []) recs.length=[]:=e;rw [e'] at hmem;cases hmem)).1
      obtain ⟨i',k',e1,e2⟩:=zhQ q1 rfl (hplain hgn)
      rw [q2] at e1
      cases e1
      exact q3 t hmem i hget (e2 i hin)
   have hroot:zc7 ops.toList τE recs.length { o,preds:=predsE recs o||| (1<<<recs.length),log:=log1,kd }:=fun hd t hbk=>by
    unfold zev at hbk
    rw [ho] at hbk
    simp only [zbi] at hbk
    obtain ⟨a,hla,hat⟩:=hbk
    have hlo:∃ ty,o.op=.load ty (.tmp a)∧o.guard=none:=by
     unfold zgH at hla
     split at hla
     ·rename_i e1 e2;cases hla;exact ⟨_,e1,e2⟩
     ·cases hla
    obtain ⟨ty,e1,e2⟩:=hlo
    obtain ⟨i,kk,c1,c2⟩:=zgL e1 (hplain e2)
    have c1':τE.get a=.pointer (some ⟨i,kk,none⟩):=Option.some.inj (show some (τE.get a)=_ from c1)
    rcases hrecs.2.2 hd a t hat with rfl | ⟨i',k1,k2,d1,d2⟩
    ·exact ⟨i,kk,c1',c2⟩
    ·rw [c1'] at d1
     cases d1
     exact ⟨i,k2,d2,c2⟩
   have hbarok:zd8 L ops.toList (zah ops.toList []) τE recs.length { o,preds:=predsE recs o||| (1<<<recs.length),log:=log1,kd }:=h6a
   have rootPut:∀ k x,zc7 ops.toList τE k x→zc7 ops.toList (τE.put o.dst v) k x:=fun k x hr hd t hbk=>by
    rw [zbm] at hd
    obtain ⟨i,kk,c1,c2⟩:=hr hd t hbk
    exact ⟨i,kk,by rw [zbn (zgg hbk ho)];exact c1,c2⟩
   have barPut:∀ k x,k≤recs.length→zd8 L ops.toList (zah ops.toList []) τE k x→zd8 L ops.toList (zah ops.toList []) (τE.put o.dst v) k x:=fun k x hk hr hm hs t hbt=>by
    obtain ⟨c1,c2⟩:=hr hm hs t hbt
    refine ⟨by rw [zbm];exact c1,fun i kk he=>c2 i kk ?_⟩
    have hun:o.dst≠some t:=by
     obtain ⟨⟨ok,hok',_,hgk,_⟩,hsp⟩:=zcQ hbt
     have hm':=hm
     unfold mustRo at hm'
     rw [hok'] at hm'
     simp only [hgk,Bool.true_and,List.any_eq_true,List.mem_range,zae] at hm'
     obtain ⟨q,hq,⟨hq1,hq2⟩,hq3⟩:=hm'
     have hqk:q≠k:=by rw [zac] at hq1;simpa using hq1
     rw [zge hq] at hq3
     have hb:=hsp q hqk hq2 _ (zge hq) (by simpa using hq3)
     exact zgg hb ho
    rw [zbn hun] at he
    exact he
   have hrecs':zgf L ops.toList (zah ops.toList []) (τE.put o.dst v) (recs.length+1) (recs++[{ o,preds:=predsE recs o||| (1<<<recs.length),log:=log1,kd }]):=by
    refine ⟨by simp [hrecs.1],fun k x hx=>?_,zhR ho hrecs.2.2 hplain⟩
    by_cases hk:k<recs.length
    ·rw [List.getElem?_append_left hk] at hx
     obtain ⟨a1,a2,a3,a4⟩:=hrecs.2.1 k x hx
     refine ⟨a1,fun t ht hun=>?_,rootPut _ _ a3,barPut _ _ (Nat.le_of_lt hk) a4⟩
     obtain ⟨b1,b2⟩:=zfJ (Nat.le_of_lt hk) ho hun
     rcases a2 t ht b1 with c | ⟨i,c1,c2⟩
     ·exact .inl c
     ·exact .inr ⟨i,by rw [zbn b2];exact c1,c2⟩
    ·rw [List.getElem?_append_right (by omega)] at hx
     have:k=recs.length:=by
      apply Classical.byContradiction;intro hc
      rw [List.getElem?_eq_none (by simp;omega)] at hx;cases hx
     subst this
     simp at hx;subst hx
     refine ⟨hnew,fun t ht hun=>?_,rootPut _ _ hroot,barPut _ _ (zlr _) hbarok⟩
     obtain ⟨_,b2⟩:=zfJ (zlr _) ho hun
     have ht':zcp L o=some t:=ht
     rw [zbn b2]
     unfold zcp at ht'
     split at ht'
     ·rename_i e1 e2
      cases ht'
      obtain ⟨i,kk,c1,c2⟩:=zgL e1 (hplain e2)
      have c1':some (τE.get t)=some (.pointer (some ⟨i,kk,none⟩)):=c1
      exact .inr ⟨i,by rw [Option.some.inj c1'];rfl,c2⟩
     ·rename_i e1 e2
      have ht2:=zhe ht'
      cases ht2
      exact zie e1 (hplain e2)
     ·cases ht'
   obtain ⟨τE',log',h5,h6,h7⟩:=hrec m (zlt (Nat.le_max_right _ _) hm) base ((log1.filter fun i=>Nat.blt i base&&!log.contains i)++log) (τE.put o.dst v) _ (ht1.put _ _) hrecs'
   refine ⟨τE',log',?_,h6,?_⟩
   ·unfold zaY
    have hstep1:(cond (wantedE ops.toList τE o) (opE P L (zam L (zai P L m)) (rho L τE) o { st.toE base log with base:=(st.toE base log).next,log:=[] }) (some (undef,.blind,{ st.toE base log with base:=(st.toE base log).next,log:=[] })))=some (v,kd,st1.toE st.next log1):=h1
    rw [hstep1]
    simp only [zob]
    have hdr:(o.after.all fun e=>!binding e||Nat.blt e.on recs.length)=true∧∀ k,k<recs.length→∀ a,ops.toList[k]?=some a→zf8 ops (zah ops.toList []) a o k recs.length=true:=by
     unfold ze0 at hok
     simp only [List.all_eq_true,List.mem_range] at hok
     have:=hok recs.length hjl
     rw [ho] at this
     simp only [zae,List.all_eq_true,List.mem_range] at this
     refine ⟨this.1,fun k hk a ha=>?_⟩
     have:=this.2 k hk
     rw [ha] at this
     exact this
    have hok2:okWith ops recs 0 { o,preds:=predsE recs o||| (1<<<recs.length),log:=log1,kd }=true:=by
     refine zfK recs 0 fun i x hx=>?_
     have hil:i<recs.length:=(List.getElem?_eq_some_iff.1 hx).1
     obtain ⟨hxo,hxl,hxr,hxb⟩:=hrecs.2.1 i x hx
     have hp:=hdr.2 i hil x.o hxo.o
     unfold zf8 at hp
     rw [hspec recs.length o ho] at hp
     simp only [Option.getD_some,← hpe] at hp
     simp only [Nat.zero_add]
     simp only [zae] at hp ⊢
     refine ⟨?_,hp.2⟩
     cases hu:(predsE recs o||| (1<<<recs.length)).testBit i with
     | true=>simp [hu]
     | false=>
       have:=hp.1
       rw [hu] at this
       simp only [Bool.false_or] at this
       rw [ziE hil hfl hxo hxl hxr hxb hnew hroot hbarok hsoft hu,this];rfl
    have hall:(o.after.all fun e=>!binding e||Nat.blt e.on recs.length)=true:=hdr.1
    rw [hok2,hall]
    simp only [Bool.and_self,zct]
    exact h5
   ·refine zaG.trans ?_ (by rw [hl] at h7;exact h7)
    intro i hi
    simp only [List.mem_append,List.mem_filter,zae,Nat.blt_eq] at hi
    rcases hi with ⟨hi,hb,_⟩ | hi
    ·right
     have:=(hlog1 i hi).1
     cases hmr:((zau L ops.toList (zah ops.toList []) recs.length).1&&(zau L ops.toList (zah ops.toList []) recs.length).2.isEmpty) with
     | true=>
       have:=hlog1 i hi
       rw [hmr] at this
       simp only [zct] at this
       omega
     | false=>rw [hmr] at this;exact ⟨this,hb⟩
    ·exact .inl hi
end
section
variable {P : Program} {L : Lk} {α : Type}
def Has (τE:Tm) (ts:List (Tmp×Sh)) (vs:List Value):Prop:=ts.length=vs.length∧∀ (i:Nat) t v,ts[i]?=some t→vs[i]?=some v→τE.t.get t.1=some v
theorem Has.nil (τE:Tm):Has τE [] []:=⟨rfl,fun i t v h=>by simp at h⟩
theorem Has.cons {τE:Tm} {t:Tmp×Sh} {ts:List (Tmp×Sh)} {v:Value} {vs:List Value} (h:τE.t.get t.1=some v) (hs:Has τE ts vs):Has τE (t::ts) (v::vs):=
 ⟨by simp [hs.1],fun i t' v' h1 h2=>by
  cases i with
  | zero=>simp at h1 h2;subst h1;subst h2;exact h
  | succ i=>exact hs.2 i t' v' (by simpa using h1) (by simpa using h2)⟩
theorem zb6 {τ τE:Tm} (h:TLe τ τE):∀ (ts:List (Tmp×Sh)) (vs:List Value),zb8 τ ts=some vs→Has τE ts vs
 | [],vs,e=>by simp only [zb8,zsj] at e;subst e;exact .nil _
 | t::ts,vs,e=>by
   simp only [zb8,zbi,zsj] at e
   obtain ⟨v,hv,us,hus,rfl⟩:=e
   exact .cons (h.2 _ _ hv) (zb6 h ts us hus)
theorem zeB {vs:List Value}:∀ (ts:List (Tmp×Sh)) (i:Nat) (τ:Tm) (K:Tm→Option α) (r:α),zc3 vs ts i τ K=some r→
  ∃ τ',K τ'=some r∧τ'.n=τ.n∧∀ τE,(∀ (j:Nat) t v,ts[j]?=some t→vs[i+j]?=some v→τE.t.get t.1=some v)→TLe τ τE→TLe τ' τE
 | [],i,τ,K,r,e=>⟨τ,e,rfl,fun _ _ h=>h⟩
 | t::ts,i,τ,K,r,e=>by
   simp only [zc3] at e
   obtain ⟨v,hv,e⟩:=zaB e
   obtain ⟨τ',h1,h2,h3⟩:=zeB ts (i+1) _ K r e
   refine ⟨τ',h1,by rw [h2,zbm],fun τE h ht=>h3 τE (fun j t' v' a b=>h (j+1) t' v' (by simpa using a) (by rw [show i+(j+1)=i+1+j by omega];exact b)) (ht.same (h 0 t v rfl (by simpa using hv)))⟩
theorem ze7:∀ (ts:List (Tmp×Sh)) (vs:List Value) (t:PT Value) (i:Nat) (v:Value),(za8 ts vs t).get i=some v→t.get i=some v∨∃ (j:Nat) (x:Tmp×Sh),ts[j]?=some x∧x.1=i∧vs[j]?=some v
 | [],vs,t,i,v,h=>.inl h
 | x::ts,[],t,i,v,h=>.inl h
 | x::ts,u::vs,t,i,v,h=>by
   simp only [za8] at h
   rcases ze7 ts vs _ i v h with h1 | ⟨j,y,h1,h2,h3⟩
   ·simp only [PT.get_upd] at h1
    split at h1
    ·rename_i e;cases h1;exact .inr ⟨0,x,rfl,e,rfl⟩
    ·exact .inl h1
   ·exact .inr ⟨j+1,y,by simpa using h1,h2,by simpa using h3⟩
theorem zhS {τE:Tm} {ts:List (Tmp×Sh)} {vs:List Value} (h:Has τE ts vs):TLe ⟨za8 ts vs .nil,τE.n⟩ τE:=
 ⟨rfl,fun i v hv=>by
  rcases ze7 ts vs _ i v hv with h1 | ⟨j,x,h1,rfl,h3⟩
  ·simp at h1
  ·exact h.2 j x v h1 h3⟩
theorem ze8:∀ (ts:List (Tmp×Sh)) (vs:List Value) (t:PT Value) (i:Nat),(∀ y∈ts,y.1≠i)→(za8 ts vs t).get i=t.get i
 | [],vs,t,i,_=>rfl
 | x::ts,[],t,i,_=>rfl
 | x::ts,u::vs,t,i,h=>by
   simp only [za8]
   rw [ze8 ts vs _ i fun y hy=>h y (List.mem_cons_of_mem _ hy),PT.get_upd,if_neg (h x List.mem_cons_self)]
theorem ze9 {n:Nat}:∀ (ts:List (Tmp×Sh)) (vs:List Value) (t:PT Value),zeZ ts=true→ts.length=vs.length→Has ⟨za8 ts vs t,n⟩ ts vs
 | [],[],t,_,_=>.nil _
 | [],_::_,t,_,h=>by simp at h
 | x::ts,[],t,_,h=>by simp at h
 | x::ts,v::vs,t,ha,h=>by
   simp only [zeZ,zae,List.all_eq_true] at ha
   refine .cons ?_ (ze9 ts vs _ ha.2 (by simpa using h))
   simp only [za8]
   rw [ze8 ts vs _ x.1 fun y hy e=>?_,PT.get_upd,if_pos rfl]
   have:=ha.1 y hy
   rw [zac,e] at this
   simp at this
theorem zih {a b:Ex} (h:zfQ a b=true):a=b:=by
 cases a<;>cases b<;>simp only [zfQ,Bool.false_eq_true] at h<;>first | rfl | (rw [beq_true h])
theorem zcV {e:Ex}:∀ (l:List (Ex×List (Tmp×Sh))) (i n:Nat) (ts:List (Tmp×Sh)),zcF e l i=some (n,ts)→i≤n∧l[n-i]?=some (e,ts)
 | [],i,n,ts,h=>by simp [zcF] at h
 | x::l,i,n,ts,h=>by
   simp only [zcF] at h
   cases hb:zfQ e x.1 with
   | true=>
     rw [hb] at h
     simp only [zct,zsj,zpj] at h
     obtain ⟨rfl,rfl⟩:=h
     have:=zih hb
     subst this
     simp
   | false=>
     rw [hb] at h
     obtain ⟨h1,h2⟩:=zcV l (i+1) n ts h
     refine ⟨by omega,?_⟩
     rw [show n-i=(n-(i+1))+1 by omega]
     simpa using h2
theorem zdx {n:Nat} {K:Ex→List (Tmp×Sh)→Option α}:∀ (l:List (Ex×List (Tmp×Sh))) (i:Nat) (x:Ex×List (Tmp×Sh)),i≤n→l[n-i]?=some x→zc4 n K l i=K x.1 x.2
 | [],i,x,_,h=>by simp at h
 | [y],i,x,hi,h=>by
   have:n-i=0:=by
    apply Classical.byContradiction;intro hc
    rw [List.getElem?_eq_none (by simp;omega)] at h;cases h
   rw [this] at h;simp at h;subst h;rfl
 | y::z::r,i,x,hi,h=>by
   simp only [zc4]
   cases hb:Nat.beq n i with
   | true=>
     have:=beq_true hb
     subst this
     simp at h;subst h;rfl
   | false=>
     have hne:n≠i:=fun e=>by rw [e,zac] at hb;simp at hb
     simp only [zcf]
     exact zdx (z::r) (i+1) x (by omega) (by rw [show n-i=(n-(i+1))+1 by omega] at h;simpa using h)
def zfa (fn:Func) (key:Nat) (c:Code):Prop:=∃ fc,fn.body=some fc∧((∃ b,c=.loop b∧key<1000000∧(zal fc).filter (fun b=>Nat.beq (zaA b) key)=[b])∨(1000000≤key∧(zaC fc).filter (fun b=>Nat.beq (zbU b) key)=[c]))
theorem zfa.unique {fn:Func} {key:Nat} {c d:Code} (h:zfa fn key c) (k:zfa fn key d):c=d:=by
 obtain ⟨fc,h1,h2⟩:=h
 obtain ⟨fd,k1,k2⟩:=k
 rw [h1] at k1;cases k1
 rcases h2 with ⟨b,rfl,hb,h2⟩ | ⟨hb,h2⟩<;>rcases k2 with ⟨b',rfl,hb',k2⟩ | ⟨hb',k2⟩
 ·rw [h2] at k2;cases k2;rfl
 ·omega
 ·omega
 ·rw [h2] at k2;cases k2;rfl
def zfb (P:Program) (L:Lk) (fn:Func) (I:LoopI) (key:Nat) (vs:List Value) (st:SS) (r:Nat×List Value×SS):Prop:=
 r.2.2.lim=st.lim∧∃ c,zfa fn key c∧Has ⟨za8 I.ins vs .nil,fn.ntmps⟩ I.ins vs∧∃ e ts,zcF e I.exits 0=some (r.1,ts)∧∃ n,∀ m,n≤m→∀ base log τE,τE.n=fn.ntmps→Has τE I.ins vs→
  ∃ τE' log',zai P L m c τE (st.toE base log)=some (e,τE',r.2.2.toE base log')∧τE'.n=fn.ntmps∧Has τE' ts r.2.1∧zaG st.lim base log log'
theorem Has.unique {τE:Tm} {ts:List (Tmp×Sh)} {vs us:List Value} (h:Has τE ts vs) (k:Has τE ts us):vs=us:=by
 apply List.ext_getElem?
 intro i
 by_cases hi:i<ts.length
 ·have h1:i<vs.length:=by rw [← h.1];exact hi
  have h2:i<us.length:=by rw [← k.1];exact hi
  have a:=h.2 i _ _ (zge hi) (zge h1)
  have b:=k.2 i _ _ (zge hi) (zge h2)
  rw [a] at b
  rw [zge h1,zge h2,b]
 ·rw [List.getElem?_eq_none (by rw [← h.1];omega),List.getElem?_eq_none (by rw [← k.1];omega)]
theorem zgi {fn:Func} {I:LoopI} {key:Nat} {vs:List Value} {st:SS} {r r':Nat×List Value×SS} (h:zfb P L fn I key vs st r) (k:zfb P L fn I key vs st r'):r=r':=by
 obtain ⟨h1,c,hc,hh,e,ts,he,n,h2⟩:=h
 obtain ⟨k1,c',kc,_,e',ts',ke,n',k2⟩:=k
 have:=hc.unique kc
 subst this
 obtain ⟨τ1,l1,a1,a2,a3,_⟩:=h2 (max n n') (Nat.le_max_left _ _) 0 [] _ rfl hh
 obtain ⟨τ2,l2,b1,b2,b3,_⟩:=k2 (max n n') (Nat.le_max_right _ _) 0 [] _ rfl hh
 rw [a1] at b1
 simp only [SS.toE,zsj,zpj,St.mk.injEq] at b1
 obtain ⟨rfl,rfl,e1,e2,_⟩:=b1
 rw [he] at ke
 simp only [zsj,zpj] at ke
 obtain ⟨e3,rfl⟩:=ke
 have e4:=a3.unique b3
 obtain ⟨i,us,⟨m,nx,lm⟩⟩:=r
 obtain ⟨i',us',⟨m',nx',lm'⟩⟩:=r'
 simp only at e1 e2 e3 e4 h1 k1
 simp only [zpj,SS.mk.injEq]
 exact ⟨e3,e4,e1,e2,h1.trans k1.symm⟩
noncomputable def lS (P:Program) (L:Lk) (fn:Func) (li:Nat→Option LoopI):zaJ:=fun key vs st=>(li key).bind fun I=>open Classical in if h:∃ r,zfb P L fn I key vs st r then some (Classical.choose h) else none
theorem zfc {fn:Func} {li:Nat→Option LoopI} {key:Nat} {I:LoopI} (hI:li key=some I) {vs:List Value} {st:SS} {r:Nat×List Value×SS}:lS P L fn li key vs st=some r↔zfb P L fn I key vs st r:=by
 unfold lS
 rw [hI]
 simp only [zob]
 constructor
 ·intro h
  split at h
  ·rename_i hx;cases h;exact Classical.choose_spec hx
  ·cases h
 ·intro h
  rw [dif_pos ⟨r,h⟩]
  exact congrArg some (zgi (Classical.choose_spec (⟨r,h⟩:∃ r,zfb P L fn I key vs st r)) h)
def CodeR (P:Program) (L:Lk) (c:Code) (τ:Tm) (st:SS) (e:Ex) (τ':Tm) (st':SS):Prop:=
 st'.lim=st.lim∧τ'.n=τ.n∧∃ n,∀ m,n≤m→∀ base log τE,TLe τ τE→∃ τE' log',zai P L m c τE (st.toE base log)=some (e,τE',st'.toE base log')∧TLe τ' τE'∧zaG st.lim base log log'
theorem zeC [Sym] (hL:L.Ok P) (hS:LkS L) {fn:Func} {fc:Code} {li:Nat→Option LoopI} (hfc:fn.body=some fc):∀ (c:Code) (τ:Tm) (st:SS) (K:Ex→Tm→SS→Option α) (r:α),τ.n=fn.ntmps→(∀ b∈zal c,b∈zal fc)→(∀ b∈zaC c,b∈zaC fc)→
  evS P L (cS P L) (lS P L fn li) li c τ st K=some r→∃ e τ' st',K e τ' st'=some r∧CodeR P L c τ st e τ' st':=by
 have step:∀ {m n:Nat},n+1≤m→∃ k,m=k+1∧n≤k:=fun {m n} h=>⟨m-1,by omega,by omega⟩
 intro c
 induction c with
 | skip=>intro τ st K r hn hb htl h;exact ⟨_,τ,st,h,rfl,rfl,1,fun m hm base log τE ht=>by
   obtain ⟨k,rfl,_⟩:=step hm
   exact ⟨τE,log,rfl,ht,.refl _ _ _⟩⟩
 | label l=>intro τ st K r hn hb htl h;exact ⟨_,τ,st,h,rfl,rfl,1,fun m hm base log τE ht=>by
   obtain ⟨k,rfl,_⟩:=step hm
   exact ⟨τE,log,rfl,ht,.refl _ _ _⟩⟩
 | exit id=>intro τ st K r hn hb htl h;exact ⟨_,τ,st,h,rfl,rfl,1,fun m hm base log τE ht=>by
   obtain ⟨k,rfl,_⟩:=step hm
   exact ⟨τE,log,rfl,ht,.refl _ _ _⟩⟩
 | ret=>intro τ st K r hn hb htl h;exact ⟨_,τ,st,h,rfl,rfl,1,fun m hm base log τE ht=>by
   obtain ⟨k,rfl,_⟩:=step hm
   exact ⟨τE,log,rfl,ht,.refl _ _ _⟩⟩
 | region id ops dr=>
   intro τ st K r hn hb htl h
   cases dr with
   | false=>
     obtain ⟨τ',st',hK,hl,hn',n,hr⟩:=zfI hL hS ops.toList τ st (K .normal) r h
     refine ⟨.normal,τ',st',hK,hl,hn',n+1,fun m hm base log τE ht=>?_⟩
     obtain ⟨k,rfl,hk⟩:=step hm
     obtain ⟨τE',log',h1,h2,h3⟩:=hr k hk base log τE ht
     refine ⟨τE',log',?_,h2,h3⟩
     show (opsE P L (zam L (zai P L k)) ops.toList ops.toList τE (st.toE base log)).map _=_
     rw [h1];rfl
   | true=>
     obtain ⟨hok,h⟩:=zaj (show cond (ze0 ops) (zaN P L (cS P L) ops.toList (ops.toList.zip (roL L ops.toList)) τ st (K .normal)) none=some r from h)
     obtain ⟨τ',st',hK,hl,hn',n,hr⟩:=zgh hL hS hok ops.toList 0 rfl τ st (K .normal) r h
     refine ⟨.normal,τ',st',hK,hl,hn',n+1,fun m hm base log τE ht=>?_⟩
     obtain ⟨k,rfl,hk⟩:=step hm
     obtain ⟨τE',log',h1,h2,h3⟩:=hr k hk base log τE [] ht ⟨rfl,fun k x hx=>by simp at hx,fun _ a t h=>by
      unfold zbq at h
      simp only [List.take_zero,List.reverse_nil,List.find?_nil,zob] at h
      exact .inl (Option.some.inj (zaj h).2)⟩
     refine ⟨τE',log',?_,h2,h3⟩
     show (zaY P L (zam L (zai P L k)) ops ops.toList [] τE (st.toE base log)).map _=_
     rw [h1];rfl
 | seq a b iha ihb=>
   intro τ st K r hn hb htl h
   obtain ⟨e,τ1,st1,hK,hl,hn1,n,hr⟩:=iha τ st _ r hn (fun x hx=>hb x (by simp [zal,hx])) (fun x hx=>htl x (by simp [zaC,hx])) h
   cases e with
   | normal=>
     have hcut:∃ e' τ2 st2,K e' τ2 st2=some r∧CodeR P L b τ1 st1 e' τ2 st2:=by
      have hK':cutS (lS P L fn li) (li (zbU b)) (zbU b) τ1 st1 K (evS P L (cS P L) (lS P L fn li) li b τ1 st1 K)=some r:=hK
      cases hI:li (zbU b) with
      | none=>
        rw [hI] at hK'
        exact ihb τ1 st1 K r (hn1.trans hn) (fun x hx=>hb x (by simp [zal,hx])) (fun x hx=>htl x (by simp [zaC,hx])) hK'
      | some I=>
        rw [hI] at hK'
        simp only [cutS,zbi] at hK'
        obtain ⟨vs,hvs,x,hx,h'⟩:=hK'
        obtain ⟨hl2,c,hc,_,e,ts,he,n2,hr2⟩:=(zfc hI).1 hx
        have hbody:c=b:=by
         obtain ⟨fc',hc1,hc2⟩:=hc
         rw [hfc] at hc1;cases hc1
         rcases hc2 with ⟨_,_,hlt,_⟩ | ⟨_,hc2⟩
         ·unfold zbU at hlt;omega
         ·have:b∈(zaC fc).filter (fun d=>Nat.beq (zbU d) (zbU b)):=by
           rw [List.mem_filter]
           exact ⟨htl b (by simp [zaC]),by rw [zac];simp⟩
          rw [hc2] at this
          exact (List.mem_singleton.1 this).symm
        subst hbody
        obtain ⟨_,hex⟩:=zcV _ _ _ _ he
        rw [zdx I.exits 0 (e,ts) (Nat.zero_le _) hex] at h'
        obtain ⟨τ',hK2,hn',hle⟩:=zeB ts 0 _ _ r h'
        refine ⟨e,τ',x.2.2,hK2,hl2,hn',n2,fun m hm base log τE ht=>?_⟩
        obtain ⟨τE',log',h1,h2,h3,h4⟩:=hr2 m hm base log τE (ht.1.trans (hn1.trans hn)) (zb6 ht _ _ hvs)
        exact ⟨τE',log',h1,hle τE' (fun j t v a b=>h3.2 j t v a (by simpa using b)) ⟨by rw [h2,hn1,hn],fun i v hv=>by simp at hv⟩,h4⟩
     obtain ⟨e',τ2,st2,hK2,hl2,hn2,n2,hr2⟩:=hcut
     refine ⟨e',τ2,st2,hK2,hl2.trans hl,hn2.trans hn1,max n n2+1,fun m hm base log τE ht=>?_⟩
     obtain ⟨k,rfl,hk⟩:=step hm
     obtain ⟨τE1,log1,h1,h2,h3⟩:=hr k (by omega) base log τE ht
     obtain ⟨τE2,log2,h4,h5,h6⟩:=hr2 k (by omega) base log1 τE1 h2
     refine ⟨τE2,log2,?_,h5,h3.trans (by rw [hl] at h6;exact h6)⟩
     show (zai P L k a τE (st.toE base log)).bind _=_
     rw [h1];exact h4
   | exit i=>
     refine ⟨_,τ1,st1,hK,hl,hn1,n+1,fun m hm base log τE ht=>?_⟩
     obtain ⟨k,rfl,hk⟩:=step hm
     obtain ⟨τE1,log1,h1,h2,h3⟩:=hr k hk base log τE ht
     refine ⟨τE1,log1,?_,h2,h3⟩
     show (zai P L k a τE (st.toE base log)).bind _=_
     rw [h1];rfl
   | ret=>
     refine ⟨_,τ1,st1,hK,hl,hn1,n+1,fun m hm base log τE ht=>?_⟩
     obtain ⟨k,rfl,hk⟩:=step hm
     obtain ⟨τE1,log1,h1,h2,h3⟩:=hr k hk base log τE ht
     refine ⟨τE1,log1,?_,h2,h3⟩
     show (zai P L k a τE (st.toE base log)).bind _=_
     rw [h1];rfl
 | cond c a b iha ihb=>
   intro τ st K r hn hb htl h
   have h':(zcG L τ c).bind (fun v=>(asB v).bind fun b'=>cond b' (evS P L (cS P L) (lS P L fn li) li a τ st K) (evS P L (cS P L) (lS P L fn li) li b τ st K))=some r:=h
   simp only [zbi] at h'
   obtain ⟨v,hv,b',hb',h'⟩:=h'
   have:=zbM hb';subst this
   cases b' with
   | true=>
     obtain ⟨e,τ1,st1,hK,hl,hn1,n,hr⟩:=iha τ st K r hn (fun x hx=>hb x (by simp [zal,hx])) (fun x hx=>htl x (by simp [zaC,hx])) h'
     refine ⟨e,τ1,st1,hK,hl,hn1,n+1,fun m hm base log τE ht=>?_⟩
     obtain ⟨k,rfl,hk⟩:=step hm
     obtain ⟨τE1,log1,h1,h2,h3⟩:=hr k hk base log τE ht
     refine ⟨τE1,log1,?_,h2,h3⟩
     show (rho L τE c).bind _=_
     rw [zcq ht c _ hv];exact h1
   | false=>
     obtain ⟨e,τ1,st1,hK,hl,hn1,n,hr⟩:=ihb τ st K r hn (fun x hx=>hb x (by simp [zal,hx])) (fun x hx=>htl x (by simp [zaC,hx])) h'
     refine ⟨e,τ1,st1,hK,hl,hn1,n+1,fun m hm base log τE ht=>?_⟩
     obtain ⟨k,rfl,hk⟩:=step hm
     obtain ⟨τE1,log1,h1,h2,h3⟩:=hr k hk base log τE ht
     refine ⟨τE1,log1,?_,h2,h3⟩
     show (rho L τE c).bind _=_
     rw [zcq ht c _ hv];exact h1
 | block id body ih=>
   intro τ st K r hn hb htl h
   obtain ⟨e,τ1,st1,hK,hl,hn1,n,hr⟩:=ih τ st _ r hn hb htl h
   have key:∃ e',K e' τ1 st1=some r∧e'=(match e with | .exit i=>cond (Nat.beq i id) .normal (.exit i) | e=>e):=by
    cases e with
    | normal=>exact ⟨_,hK,rfl⟩
    | ret=>exact ⟨_,hK,rfl⟩
    | exit i=>
      simp only at hK ⊢
      cases hb':Nat.beq i id with
      | true=>rw [hb'] at hK;exact ⟨_,hK,rfl⟩
      | false=>rw [hb'] at hK;exact ⟨_,hK,rfl⟩
   obtain ⟨e',hK',he'⟩:=key
   refine ⟨e',τ1,st1,hK',hl,hn1,n+1,fun m hm base log τE ht=>?_⟩
   obtain ⟨k,rfl,hk⟩:=step hm
   obtain ⟨τE1,log1,h1,h2,h3⟩:=hr k hk base log τE ht
   refine ⟨τE1,log1,?_,h2,h3⟩
   show (zai P L k body τE (st.toE base log)).bind _=_
   rw [h1,he']
   cases e<;>rfl
 | loop body ih=>
   intro τ st K r hn hb htl h
   obtain ⟨hlt,h⟩:=zaj (show cond (Nat.blt (zaA body) 1000000) ((li (zaA body)).bind fun I=>(zb8 τ I.ins).bind fun vs=>(lS P L fn li (zaA body) vs st).bind fun r=>zc4 r.1 (fun e ts=>zc3 r.2.1 ts 0 ⟨.nil,τ.n⟩ fun τ'=>K e τ' r.2.2) I.exits 0) none=some r from h)
   simp only [zbi] at h
   obtain ⟨I,hI,vs,hvs,x,hx,h'⟩:=h
   obtain ⟨hl,c,hc,_,e,ts,he,n,hr⟩:=(zfc hI).1 hx
   have hbody:c=.loop body:=by
    obtain ⟨fc',hc1,hc2⟩:=hc
    rw [hfc] at hc1;cases hc1
    rcases hc2 with ⟨b,rfl,_,hc2⟩ | ⟨hge,_⟩
    ·have:body∈(zal fc).filter (fun b=>Nat.beq (zaA b) (zaA body)):=by
      rw [List.mem_filter]
      exact ⟨hb body (by simp [zal]),by rw [zac];simp⟩
     rw [hc2] at this
     rw [List.mem_singleton.1 this]
    ·rw [Nat.blt_eq] at hlt;omega
   subst hbody
   obtain ⟨_,hex⟩:=zcV _ _ _ _ he
   rw [zdx I.exits 0 (e,ts) (Nat.zero_le _) hex] at h'
   obtain ⟨τ',hK,hn',hle⟩:=zeB ts 0 _ _ r h'
   refine ⟨e,τ',x.2.2,hK,hl,hn',n,fun m hm base log τE ht=>?_⟩
   obtain ⟨τE',log',h1,h2,h3,h4⟩:=hr m hm base log τE (ht.1.trans hn) (zb6 ht _ _ hvs)
   refine ⟨τE',log',h1,hle τE' (fun j t v a b=>h3.2 j t v a (by simpa using b)) ⟨by rw [h2,hn],fun i v hv=>by simp at hv⟩,h4⟩
 | _=>intro τ st K r hn hb htl h;cases h
theorem zhT:∀ (c b:Code),b∈zal c→(∀ x∈zal b,x∈zal c)∧∀ x∈zaC b,x∈zaC c:=by
 intro c
 induction c with
 | seq a b iha ihb=>
   intro y hy
   simp only [zal,List.mem_append] at hy
   refine ⟨fun x hx=>?_,fun x hx=>?_⟩
   ·simp only [zal,List.mem_append];exact hy.imp (fun h=>(iha y h).1 x hx) (fun h=>(ihb y h).1 x hx)
   ·simp only [zaC,List.mem_cons,List.mem_append];exact .inr (hy.imp (fun h=>(iha y h).2 x hx) (fun h=>(ihb y h).2 x hx))
 | cond c a b iha ihb=>
   intro y hy
   simp only [zal,List.mem_append] at hy
   refine ⟨fun x hx=>?_,fun x hx=>?_⟩
   ·simp only [zal,List.mem_append];exact hy.imp (fun h=>(iha y h).1 x hx) (fun h=>(ihb y h).1 x hx)
   ·simp only [zaC,List.mem_append];exact hy.imp (fun h=>(iha y h).2 x hx) (fun h=>(ihb y h).2 x hx)
 | block id b ih=>intro y hy;exact ih y hy
 | loop b ih=>
   intro y hy
   simp only [zal,List.mem_cons] at hy
   rcases hy with rfl | hy
   ·exact ⟨fun x hx=>by simp only [zal,List.mem_cons];exact .inr hx,fun x hx=>hx⟩
   ·exact ⟨fun x hx=>by simp only [zal,List.mem_cons];exact .inr ((ih y hy).1 x hx),fun x hx=>(ih y hy).2 x hx⟩
 | _=>intro y hy;simp [zal] at hy
theorem zbV [Sym] (hL:L.Ok P) (hS:LkS L) {fn:Func} {li:Nat→Option LoopI} {key:Nat} {I:LoopI} (hI:li key=some I) (hfc:(fn.body.map fun c=>(zal c).filter fun b=>Nat.beq (zaA b) key)=some [zbT fn key])
  (hkb:(Nat.blt key 1000000&&Nat.beq (zaA (zbT fn key)) key)=true) (hap:zeZ I.ins=true) {vs:List Value} (hlen:I.ins.length=vs.length) {st:SS} {r:Nat×List Value×SS}
  (h:loopS P L (cS P L) (lS P L fn li) li (zbT fn key) I fn.ntmps vs st=some r):lS P L fn li key vs st=some r:=by
 have step:∀ {m n:Nat},n+1≤m→∃ k,m=k+1∧n≤k:=fun {m n} h=>⟨m-1,by omega,by omega⟩
 rw [zfc hI]
 simp only [zae,Nat.blt_eq] at hkb
 have hkey:=beq_true hkb.2
 obtain ⟨fc,hfc1,hfil⟩:∃ c,fn.body=some c∧(zal c).filter (fun b=>Nat.beq (zaA b) key)=[zbT fn key]:=by
  cases hb:fn.body with
  | none=>rw [hb] at hfc;cases hfc
  | some c=>rw [hb] at hfc;simp only [Option.map_some,zsj] at hfc;exact ⟨c,rfl,hfc⟩
 have hmem:zbT fn key∈zal fc:=by
  have:zbT fn key∈(zal fc).filter (fun b=>Nat.beq (zaA b) key):=by rw [hfil];simp
  exact (List.mem_filter.1 this).1
 have hcut:zfa fn key (.loop (zbT fn key)):=⟨fc,hfc1,.inl ⟨_,rfl,hkb.1,hfil⟩⟩
 have hsub:=zhT fc _ hmem
 unfold loopS at h
 obtain ⟨e,τ1,st1,hK,hl,hn1,n,hr⟩:=zeC hL hS hfc1 (zbT fn key) ⟨za8 I.ins vs .nil,fn.ntmps⟩ st _ r rfl hsub.1 hsub.2 h
 have hcan:Has ⟨za8 I.ins vs .nil,fn.ntmps⟩ I.ins vs:=ze9 I.ins vs .nil hap hlen
 have hle:∀ τE,τE.n=fn.ntmps→Has τE I.ins vs→TLe ⟨za8 I.ins vs .nil,fn.ntmps⟩ τE:=fun τE hn hh=>by have:=zhS hh;rw [hn] at this;exact this
 cases e with
 | normal=>
   simp only [zbi] at hK
   obtain ⟨vs',hvs',hK⟩:=hK
   rw [hkey] at hK
   obtain ⟨hl2,c2,hc2,_,e,ts,he,n2,hr2⟩:=(zfc hI).1 hK
   have:=hc2.unique hcut
   subst this
   refine ⟨hl2.trans hl,_,hcut,hcan,e,ts,he,max n n2+1,fun m hm base log τE hn hh=>?_⟩
   obtain ⟨k,rfl,hk⟩:=step hm
   obtain ⟨τE1,log1,h1,h2,h3⟩:=hr k (by omega) base log τE (hle τE hn hh)
   obtain ⟨τE2,log2,h4,h5,h6,h7⟩:=hr2 k (by omega) base log1 τE1 (by rw [h2.1,hn1]) (zb6 h2 _ _ hvs')
   refine ⟨τE2,log2,?_,h5,h6,h3.trans (by rw [hl] at h7;exact h7)⟩
   show (zai P L k (zbT fn key) τE (st.toE base log)).bind _=_
   rw [h1];exact h4
 | exit i=>
   simp only [zbi,zsj] at hK
   obtain ⟨x,hx,us,hus,rfl⟩:=hK
   refine ⟨hl,_,hcut,hcan,.exit i,x.2,hx,n+1,fun m hm base log τE hn hh=>?_⟩
   obtain ⟨k,rfl,hk⟩:=step hm
   obtain ⟨τE1,log1,h1,h2,h3⟩:=hr k hk base log τE (hle τE hn hh)
   refine ⟨τE1,log1,?_,by rw [h2.1,hn1],zb6 h2 _ _ hus,h3⟩
   show (zai P L k (zbT fn key) τE (st.toE base log)).bind _=_
   rw [h1];rfl
 | ret=>
   simp only [zbi,zsj] at hK
   obtain ⟨x,hx,us,hus,rfl⟩:=hK
   refine ⟨hl,_,hcut,hcan,.ret,x.2,hx,n+1,fun m hm base log τE hn hh=>?_⟩
   obtain ⟨k,rfl,hk⟩:=step hm
   obtain ⟨τE1,log1,h1,h2,h3⟩:=hr k hk base log τE (hle τE hn hh)
   refine ⟨τE1,log1,?_,by rw [h2.1,hn1],zb6 h2 _ _ hus,h3⟩
   show (zai P L k (zbT fn key) τE (st.toE base log)).bind _=_
   rw [h1];rfl
theorem zbO {τ:Tm} {st:SS}:∀ (rs:List ResultVar) (K:List Value→Option α) (r:α),zew L τ st rs K=some r→∃ vs,K vs=some r∧∀ τE base log,TLe τ τE→zao L rs τE (st.toE base log)=some vs
 | [],K,r,h=>⟨[],h,fun _ _ _ _=>rfl⟩
 | .tmp t::rs,K,r,h=>by
   simp only [zew,zbi] at h
   obtain ⟨v,hv,h⟩:=h
   obtain ⟨vs,h1,h2⟩:=zbO rs _ r h
   refine ⟨v::vs,h1,fun τE base log ht=>?_⟩
   have:=h2 τE base log ht
   unfold zao at this ⊢
   rw [List.mapM_cons,this]
   simp only [zc5 (ht.2 t v hv)]
   rfl
 | .cell a t::rs,K,r,h=>by
   simp only [zew,zbi] at h
   obtain ⟨p,hp,⟨i,k⟩,ha,v,hv,h⟩:=h
   obtain ⟨vs,h1,h2⟩:=zbO rs _ r h
   refine ⟨v::vs,h1,fun τE base log ht=>?_⟩
   have:=h2 τE base log ht
   unfold zao at this ⊢
   rw [List.mapM_cons,this]
   have key:(match st.mem.get i with | some (.cells c _)=>zaU L t k c | _=>none)=some v:=by
    unfold SS.readT at hv
    split at hv
    ·rename_i f hu
     simp only [zbi] at hv
     obtain ⟨n,hn,hv⟩:=hv
     unfold SS.rdN at hv
     simp only [zbi] at hv
     obtain ⟨ob,hob,hv⟩:=hv
     rw [hob]
     cases ob<;>simp only [reduceCtorEq] at hv ⊢
     unfold zaU;simp only [hu,hn,zob];exact hv
    ·rename_i n0 e hu
     simp only [zbi] at hv
     obtain ⟨n,hn,hv⟩:=hv
     unfold SS.rdN at hv
     simp only [zbi] at hv
     obtain ⟨ob,hob,hv⟩:=hv
     rw [hob]
     cases ob<;>simp only [reduceCtorEq] at hv ⊢
     unfold zaU;simp only [hu,hn,zob];exact hv
    ·rename_i d h1 h2 hu
     unfold SS.rd at hv
     simp only [zbi] at hv
     obtain ⟨ob,hob,hv⟩:=hv
     rw [hob]
     cases ob<;>simp only [reduceCtorEq] at hv ⊢
     unfold zaU;rw [hu];cases d<;>first | exact hv | exact absurd rfl (h1 _) | exact absurd rfl (h2 _ _)
    ·cases hv
   simp only [zc5 (ht.2 a p hp),ha,zob]
   exact zbi.2 ⟨v,key,rfl⟩
theorem zgM (args:List Value) (n:Nat):TLe ⟨zbz args 0 .nil,n⟩ ⟨zbz args 0 .nil,n⟩:=.refl _
theorem zbw [Sym] (hL:L.Ok P) (hS:LkS L) {f:FuncId} {j:FuncId} {fn:Func} {li:Nat→Option LoopI} (hf:L.func f=some (j,fn)) {args:List Value} {st:SS} {r:Value×SS} (hext:L.ext f args=none) (hcon:∀ n,L.con f args n=none)
  (h:bodyS P L (cS P L) (lS P L fn li) li fn (L.pureF f) args st=some r):cS P L f args st=some r:=by
 rw [ze2]
 unfold bodyS at h
 simp only [zbi] at h
 obtain ⟨c,hc,h⟩:=h
 obtain ⟨hle,h⟩:=zaj h
 have unf:∀ m base log,zam L (zai P L m) f args (st.toE base log)=cond (L.pureF f)
   ((zai P L m c ⟨zbz args 0 .nil,fn.ntmps⟩ ((st.ro st.next).toE st.next [])).bind fun (e,τ,st1)=>match e with
     | .exit _=>none
     | _=>(zao L fn.results.toList τ st1).bind fun vs=>cond (st1.log.isEmpty&&flat3 (zas vs)) (some (zas vs,{ st.toE base log with next:=st1.next })) none)
   ((zai P L m c ⟨zbz args 0 .nil,fn.ntmps⟩ (st.toE base log)).bind fun (e,τ,st)=>match e with
     | .exit _=>none
     | _=>(zao L fn.results.toList τ st).map fun vs=>(zas vs,st)):=fun m base log=>by
  unfold zam
  rw [hext,hcon]
  simp only [hf,zob,hc,hle,zct]
  rfl
 cases hp:L.pureF f with
 | true=>
   rw [hp] at h
   simp only [zct] at h
   obtain ⟨e,τ1,st1,hK,hl,hn1,n,hr⟩:=zeC hL hS hc c ⟨zbz args 0 .nil,fn.ntmps⟩ (st.ro st.next) _ r rfl (fun _ h=>h) (fun _ h=>h) h
   have key:(∀ id,e≠.exit id)∧∃ vs,cond (flat3 (zas vs)) (some (zas vs,st.adv st1.next)) none=some r∧∀ τE base log,TLe τ1 τE→zao L fn.results.toList τE (st1.toE base log)=some vs:=by
    cases e with
    | exit i=>cases hK
    | normal=>exact ⟨(fun _ h=>by cases h),zbO _ _ r hK⟩
    | ret=>exact ⟨(fun _ h=>by cases h),zbO _ _ r hK⟩
   obtain ⟨hne,vs,hvs,hres⟩:=key
   obtain ⟨hfl,hvs⟩:=zaj hvs
   cases hvs
   refine ⟨rfl,n,fun m hm base log=>⟨log,?_,.refl _ _ _⟩⟩
   obtain ⟨τE',log',h1,h2,h3⟩:=hr m hm st.next [] _ (zgM _ _)
   have hlog:log'=[]:=by
    rw [List.eq_nil_iff_forall_not_mem]
    intro i hi
    rcases h3 i hi with h4 | ⟨h4,h5⟩
    ·cases h4
    ·have:st.next≤i:=h4
     omega
   subst hlog
   rw [unf,hp]
   simp only [zct]
   rw [h1]
   have hfin:(zao L fn.results.toList τE' (st1.toE st.next [])).bind (fun vs=>cond ((st1.toE st.next []).log.isEmpty&&flat3 (zas vs)) (some (zas vs,{ st.toE base log with next:=(st1.toE st.next []).next })) none)=some (zas vs,(st.adv st1.next).toE base log):=by
    rw [hres τE' st.next [] h2]
    simp only [zob,hfl]
    rfl
   cases e with
   | exit i=>exact absurd rfl (hne i)
   | normal=>exact hfin
   | ret=>exact hfin
 | false=>
   rw [hp] at h
   simp only [zcf] at h
   obtain ⟨e,τ1,st1,hK,hl,hn1,n,hr⟩:=zeC hL hS hc c ⟨zbz args 0 .nil,fn.ntmps⟩ st _ r rfl (fun _ h=>h) (fun _ h=>h) h
   have key:(∀ id,e≠.exit id)∧∃ vs,some (zas vs,st1)=some r∧∀ τE base log,TLe τ1 τE→zao L fn.results.toList τE (st1.toE base log)=some vs:=by
    cases e with
    | exit i=>cases hK
    | normal=>exact ⟨(fun _ h=>by cases h),zbO _ _ r hK⟩
    | ret=>exact ⟨(fun _ h=>by cases h),zbO _ _ r hK⟩
   obtain ⟨hne,vs,hvs,hres⟩:=key
   cases hvs
   refine ⟨hl,n,fun m hm base log=>?_⟩
   obtain ⟨τE',log',h1,h2,h3⟩:=hr m hm base log _ (zgM _ _)
   refine ⟨log',?_,h3⟩
   rw [unf,hp]
   simp only [zcf]
   rw [h1]
   have hfin:(zao L fn.results.toList τE' (st1.toE base log')).map (fun vs=>(zas vs,st1.toE base log'))=some (zas vs,st1.toE base log'):=by
    rw [hres τE' base log' h2];rfl
   cases e with
   | exit i=>exact absurd rfl (hne i)
   | normal=>exact hfin
   | ret=>exact hfin
end
section
variable {st : SS} {ob : AObj} {i j k n : Nat}
@[simp] theorem SS.new_next:(st.new ob).next=st.next+1:=rfl
@[simp] theorem SS.new_lim:(st.new ob).lim=st.lim:=rfl
@[simp] theorem SS.new_get:(st.new ob).mem.get st.next=some ob:=by simp [SS.new]
theorem SS.new_old (h:j≠st.next):(st.new ob).mem.get j=st.mem.get j:=by simp only [SS.new,PT.get_upd];rw [if_neg (fun e=>h e.symm)]
@[simp] theorem SS.set_next {x:Option AObj}:(st.set i x).next=st.next:=rfl
@[simp] theorem SS.set_lim {x:Option AObj}:(st.set i x).lim=st.lim:=rfl
@[simp] theorem SS.set_get {x:Option AObj}:(st.set i x).mem.get i=x:=by simp [SS.set]
theorem SS.set_old {x:Option AObj} (h:j≠i):(st.set i x).mem.get j=st.mem.get j:=by simp only [SS.set,PT.get_upd];rw [if_neg (fun e=>h e.symm)]
@[simp] theorem SS.ro_mem:(st.ro n).mem=st.mem:=rfl
@[simp] theorem SS.ro_next:(st.ro n).next=st.next:=rfl
@[simp] theorem SS.ro_lim:(st.ro n).lim=n:=rfl
@[simp] theorem SS.adv_mem:(st.adv n).mem=st.mem:=rfl
@[simp] theorem SS.adv_next:(st.adv n).next=n:=rfl
@[simp] theorem SS.adv_lim:(st.adv n).lim=st.lim:=rfl
@[simp] theorem SS.adv_self:st.adv st.next=st:=rfl
@[simp] theorem SS.adv_adv {m:Nat}:(st.adv n).adv m=st.adv m:=rfl
@[simp] theorem SS.ro_ro {m:Nat}:(st.ro n).ro m=st.ro m:=rfl
@[simp] theorem SS.ro_self:st.ro st.lim=st:=rfl
theorem SS.ld_cells {c:List Value} {z:Nat} (h:st.mem.get i=some (.cells c z)):st.ld i k=c[k]?:=by unfold SS.ld;rw [h];rfl
theorem SS.ld_table {c:List Value} (h:st.mem.get i=some (.table c)):st.ld i k=c[k]?:=by unfold SS.ld;rw [h];rfl
theorem SS.rd_cells {c:List Value} {z:Nat} (h:st.mem.get i=some (.cells c z)):st.rd i k=c[k]?:=by unfold SS.rd;rw [h];rfl
theorem SS.ldN_cells {c:List Value} {z:Nat} (h:st.mem.get i=some (.cells c z)):st.ldN i k n=(cut c k n).map fun d=>.agg d.toArray:=by unfold SS.ldN;rw [h];rfl
theorem SS.ldN_table {c:List Value} (h:st.mem.get i=some (.table c)):st.ldN i k n=(cut c k n).map fun d=>.agg d.toArray:=by unfold SS.ldN;rw [h];rfl
theorem SS.rdN_cells {c:List Value} {z:Nat} (h:st.mem.get i=some (.cells c z)):st.rdN i k n=(cut c k n).map fun d=>.agg d.toArray:=by unfold SS.rdN;rw [h];rfl
theorem SS.st_cells {c c' vs:List Value} {z:Nat} (h:st.mem.get i=some (.cells c z)) (hl:st.lim≤i) (h1:vs.all one=true) (hs:zbk c k vs=some c'):st.st i k vs=some (st.set i (some (.cells c' z))):=by
 unfold SS.st
 have:Nat.ble st.lim i=true:=by rwa [Nat.ble_eq]
 rw [this,h]
 simp [h1,hs]
end
structure Ext (st0 st:SS):Prop where
 next:st0.next≤st.next
 lim:st.lim=st0.lim
 keep:∀ j,j<st0.next→st.mem.get j=st0.mem.get j
section
variable {st0 st st' : SS} {ob : AObj} {i n : Nat}
theorem Ext.refl (st:SS):Ext st st:=⟨zlr _,rfl,fun _ _=>rfl⟩
theorem Ext.trans {a b c:SS} (h:Ext a b) (k:Ext b c):Ext a c:=⟨zlt h.next k.next,k.lim.trans h.lim,fun j hj=>(k.keep j (zll hj h.next)).trans (h.keep j hj)⟩
theorem Ext.new (h:Ext st0 st) (ob:AObj):Ext st0 (st.new ob):=⟨Nat.le_succ_of_le h.next,h.lim,fun j hj=>by rw [SS.new_old (by have:=h.next;omega)];exact h.keep j hj⟩
theorem Ext.adv (h:Ext st0 st) (hn:st.next≤n):Ext st0 (st.adv n):=⟨zlt h.next hn,h.lim,h.keep⟩
theorem Ext.set (h:Ext st0 st) (hi:st0.next≤i) (x:Option AObj):Ext st0 (st.set i x):=⟨h.next,h.lim,fun j hj=>by rw [SS.set_old (by omega)];exact h.keep j hj⟩
theorem Ext.get {x:Option AObj} (h:Ext st0 st) (hi:i<st0.next) (hx:st0.mem.get i=x):st.mem.get i=x:=(h.keep i hi).trans hx
end
theorem wrap64 {n:Int} (h0: -9223372036854775808≤n) (h1:n≤9223372036854775807):IntKind.wrap .i64 n=n:=by
 rw [← zdp]
 show zcN 18446744073709551616 9223372036854775808 n=n
 rw [zf2 _ _ _ (by decide)]
 split<;>omega
theorem zgN {n:Int} (h0:0≤n) (h1:n<4294967296):IntKind.wrap .u32 n=n:=by
 rw [← zdp]
 show ((zaV n 4294967296:Nat):Int)=n
 rw [zdo _ _ (by decide)]
 omega
@[simp] theorem bl_length (s:ByteArray):(bl s).length=s.size:=by simp [bl]
@[simp] theorem zcr (k:IntKind) (n:Int):asI k (.int k n)=some n:=by cases k<;>rfl
@[simp] theorem zb7 (b:Bool):asB (.bool b)=some b:=rfl
@[simp] theorem ziJ (s:ByteArray):asS (.string s)=some s:=rfl
theorem zc8 {c:List Value} {n:Nat} (h:c.length=n):cut c 0 n=some c:=by
 unfold cut
 simp only [List.drop_zero]
 have:c.take n=c:=List.take_of_length_le (by omega)
 rw [this,zac,h]
 simp
theorem zfd {c d:List Value} {k n:Nat} (h:(c.drop k).take n=d) (hl:d.length=n):cut c k n=some d:=by
 unfold cut
 simp only [h,zac,hl]
 simp
theorem zfL {c vs:List Value} {k:Nat} (h:k+vs.length≤c.length):zbk c k vs=some (c.take k++(vs++c.drop (k+vs.length))):=by
 unfold zbk
 have:Nat.ble (k+vs.length) c.length=true:=by rwa [Nat.ble_eq]
 rw [this];rfl
def Own (b:Nat) (st:SS) (v:Value) (c:List Value) (z n:Nat):Prop:=
 c.length=n*z∧((v=.slice none 0 0∧n=0)∨∃ i,v=.slice (some ⟨i,0,none⟩) n n∧0<n∧st.mem.get i=some (.cells c z)∧b≤i∧i<st.next)
theorem Own.nil (b:Nat) (st:SS) (z:Nat):Own b st (.slice none 0 0) [] z 0:=⟨by simp,.inl ⟨rfl,rfl⟩⟩
theorem Own.ext {b:Nat} {st st':SS} {v:Value} {c:List Value} {z n:Nat} (h:Own b st v c z n) (he:Ext st st'):Own b st' v c z n:=by
 obtain ⟨h1,h2⟩:=h
 refine ⟨h1,h2.imp id ?_⟩
 rintro ⟨i,e,h0,hm,hb,hi⟩
 exact ⟨i,e,h0,he.get hi hm,hb,zll hi he.next⟩
theorem Own.len {b:Nat} {st:SS} {v:Value} {c:List Value} {z n:Nat} (h:Own b st v c z n):lenV v=some (.int .i64 (n:Int)):=by
 obtain ⟨_,⟨rfl,rfl⟩ | ⟨i,rfl,_⟩⟩:=h<;>rfl
def Rd (st:SS) (v:Value) (c:List Value) (z n:Nat):Prop:=
 c.length=n*z∧((v=.slice none 0 0∧n=0)∨∃ i cap,v=.slice (some ⟨i,0,none⟩) n cap∧(∃ z',st.mem.get i=some (.cells c z'))∧i<st.next)
theorem Own.rd {b:Nat} {st:SS} {v:Value} {c:List Value} {z n:Nat} (h:Own b st v c z n):Rd st v c z n:=by
 obtain ⟨h1,h2⟩:=h
 refine ⟨h1,h2.imp id ?_⟩
 rintro ⟨i,e,h0,hm,hb',hi⟩
 exact ⟨i,n,e,⟨z,hm⟩,hi⟩
theorem Rd.ext {st st':SS} {v:Value} {c:List Value} {z n:Nat} (h:Rd st v c z n) (he:Ext st st'):Rd st' v c z n:=by
 obtain ⟨h1,h2⟩:=h
 refine ⟨h1,h2.imp id ?_⟩
 rintro ⟨i,cap,e,⟨z',hm⟩,hi⟩
 exact ⟨i,cap,e,⟨z',he.get hi hm⟩,zll hi he.next⟩
theorem Rd.len {st:SS} {v:Value} {c:List Value} {z n:Nat} (h:Rd st v c z n):lenV v=some (.int .i64 (n:Int)):=by
 obtain ⟨_,⟨rfl,rfl⟩ | ⟨i,cap,rfl,_⟩⟩:=h<;>rfl
theorem Rd.elem {st:SS} {v:Value} {c:List Value} {z n:Nat} (h:Rd st v c z n) {j:Int} (h0:0≤j) (h1:j<n):∃ i z',zbG v j z=some (i,j.toNat*z)∧st.mem.get i=some (.cells c z')∧i<st.next:=by
 obtain ⟨_,⟨rfl,rfl⟩ | ⟨i,cap,rfl,⟨z',hm⟩,hi⟩⟩:=h
 ·omega
 ·refine ⟨i,z',?_,hm,hi⟩
  unfold zbG
  simp [h0,h1]
theorem Rd.load {st:SS} {v:Value} {c row:List Value} {z n:Nat} (h:Rd st v c z n) {j:Int} (h0:0≤j) (h1:j<n) (hr:(c.drop (j.toNat*z)).take z=row) (hz:row.length=z):
  ∃ p,zbG v j z=some p∧st.ldN p.1 p.2 z=some (.agg row.toArray)∧∀ m,m<z→st.ld p.1 (p.2+m)=row[m]?:=by
 obtain ⟨i,z',h2,h3,h4⟩:=h.elem h0 h1
 refine ⟨_,h2,?_,fun m hm=>?_⟩
 ·rw [SS.ldN_cells h3,zfd hr hz];rfl
 ·rw [SS.ld_cells h3,← hr,List.getElem?_take_of_lt hm,List.getElem?_drop]
theorem Rd.first {st:SS} {v:Value} {c:List Value} {z n:Nat} (h:Rd st v c z n):zbI v=some n∧st.first z n v=some c:=by
 obtain ⟨h1,⟨rfl,rfl⟩ | ⟨i,cap,rfl,⟨z',hm⟩,hi⟩⟩:=h
 ·have:c=[]:=by simpa using h1
  subst this
  exact ⟨rfl,rfl⟩
 ·refine ⟨rfl,?_⟩
  show (st.mem.get i).bind (fun ob=>match ob with | .cells c _=>cut c 0 (n*z) | _=>none)=some c
  rw [hm]
  exact zc8 h1
theorem Own.app {b:Nat} {st:SS} {v x:Value} {c d:List Value} {z n m bt:Nat} (h:Own b st v c z n) (hx:Rd st x d z m) (hb:b≤st.next) (hl:st.lim≤b) (hz:0<z) (h1:d.all one=true) (hs:(n+m+1)*bt≤2^44) (hn:n+m≤2^44):
  ∃ v' st',st.app z bt v x=some (v',st')∧Own b st' v' (c++d) z (n+m)∧st'.lim=st.lim∧st.next≤st'.next∧(∀ st0,st0.next≤b→Ext st0 st→Ext st0 st')∧
   ∀ j,j<st.next→(∀ q,v≠.slice (some ⟨j,0,none⟩) q q)→st'.mem.get j=st.mem.get j:=by
 obtain ⟨e1,e2⟩:=hx.first
 unfold SS.app
 rw [e1]
 simp only [zob]
 have hlen:(c++d).length=(n+m)*z:=by rw [List.length_append,h.1,hx.1,Nat.add_mul]
 by_cases hm:m=0
 ·have hd:d=[]:=by have:=hx.1;rw [hm] at this;simpa using this
  subst hm;subst hd
  have hb0:Nat.beq 0 0=true:=rfl
  obtain ⟨h2,h3⟩:=h
  rcases h3 with ⟨rfl,rfl⟩ | ⟨i,rfl,hr⟩
  ·exact ⟨_,st,by simp only [hb0,zct],⟨by simpa using h2,.inl ⟨rfl,rfl⟩⟩,rfl,zlr _,fun _ _ h=>h,fun _ _ _=>rfl⟩
  ·exact ⟨_,st,by simp only [hb0,zct,Nat.add_zero],⟨by simpa using h2,.inr ⟨i,rfl,by simpa using hr⟩⟩,rfl,zlr _,fun _ _ h=>h,fun _ _ _=>rfl⟩
 ·have hm0:Nat.beq m 0=false:=by rw [zac];simp [hm]
  obtain ⟨h2,h3⟩:=h
  rcases h3 with ⟨rfl,rfl⟩ | ⟨i,rfl,h0,hmem,hbi,hi⟩
  ·have hc:c=[]:=by simpa using h2
   subst hc
   have q:(Nat.ble ((m+1)*bt) (2^44)&&Nat.ble m (2^44))=true:=by
    simp only [zae,Nat.ble_eq]
    simp only [Nat.zero_add] at hs hn
    exact ⟨hs,hn⟩
   refine ⟨.slice (some ⟨st.next,0,none⟩) m m,st.new (.cells d z),by simp only [hm0,zcf,q,zct,e2,zob],⟨by simpa using hlen,.inr ⟨st.next,by simp,by omega,by simp,hb,by simp⟩⟩,rfl,by simp,fun st0 _ he=>he.new _,fun j hj _=>SS.new_old (by omega)⟩
  ·have q:(Nat.ble ((n+m+1)*bt) (2^44)&&Nat.ble (n+m) (2^44)&&Nat.ble st.lim i)=true:=by
    simp only [zae,Nat.ble_eq]
    exact ⟨⟨hs,hn⟩,by omega⟩
   have q2:(Nat.beq z z&&(Nat.blt n (n+m)||Nat.ble (0+n*z) c.length))=true:=by
    have a:Nat.beq z z=true:=by rw [zac];simp
    have b':Nat.blt n (n+m)=true:=by rw [Nat.blt_eq];omega
    rw [a,b'];rfl
   refine ⟨.slice (some ⟨st.next,0,none⟩) (n+m) (n+m),(st.set i none).new (.cells (c++d) z),?_,⟨hlen,.inr ⟨st.next,rfl,by omega,by simp [SS.new,SS.set],by omega,by simp⟩⟩,rfl,by simp,fun st0 hb0 he=>(he.set (by omega) none).new _,fun j hj hne=>?_⟩
   ·simp only [hm0,zcf,q,zct,hmem,zob,q2,zc8 h2,e2,h1]
   ·rw [SS.new_old (by simp;omega),SS.set_old (fun e=>hne n (by rw [e]))]
@[simp] theorem nbeq_dec (a b:Nat):Nat.beq a b=decide (a=b):=zac a b
@[simp] theorem nble_dec (a b:Nat):Nat.ble a b=decide (a≤b):=by rw [Bool.eq_iff_iff];simp [Nat.ble_eq]
@[simp] theorem zcJ (i k:Nat):addr? (ptr i k)=some (i,k):=rfl
theorem ziF {P:Program} {L:Lk} {l:List (Nat×AObj)} {nx:Nat} {f:FuncId} {args:List Value} {v:Value} {st':SS} (h:cS P L f args ⟨zcD l,nx,nx⟩=some (v,st')):
  ∃ n stE,runE P L n f args (start l nx)=some (v,stE)∧stE.log=[]:=by
 rw [ze2] at h
 obtain ⟨_,n,hn⟩:=h
 obtain ⟨log',h1,h2⟩:=hn n (zlr _) nx []
 refine ⟨n,st'.toE nx log',h1,?_⟩
 show log'=[]
 cases log' with
 | nil=>rfl
 | cons i r=>
   rcases h2 i (by simp) with h3 | ⟨h3,h4⟩
   ·cases h3
   ·have h3':nx≤i:=h3
    omega
theorem law_cS [Sym] {P:Program} {L:Lk} (hL:L.Ok P) (hC:zdV P L) {f:Nat} {fn:Func} (hf:L.func f=some (f,fn)) {l:List (Nat×AObj)} {nx:Nat} {W:World} {args:List Value} {v:Value} {st':SS}
  (h:cS P L f args ⟨zcD l,nx,nx⟩=some (v,st')) (hv:flat3 v=true) (hargs:∀ x∈args,flat3 x=true)
  (hob:∀ x∈l,∃ obj,W.heap[x.1]?=some obj∧OR (zbS l) ⟨x.1,0,0,0⟩ obj x.2) (hg:∀ g,L.glob g=true→g∈l.map (·.1)) (hn:∀ x∈l,x.1<nx):
  Calls P f args.toArray W fun e W'=>e=.returned v∧RowKit.Below W.heap.size W W':=by
 obtain ⟨n,stE,h1,h2⟩:=ziF h
 exact zhz hL hC hf h1 hv h2 hargs hob hg hn
inductive CK where
 | b
 | i (k:IntKind)
 | s
def ckOk:CK→Value→Prop
 | .b,v=>∃ x,v=.bool x
 | .i k,v=>∃ n,v=.int k n∧(Lit.int k n).wf=true
 | .s,v=>∃ x:ByteArray,v=.string x∧x.size≤maxLen
def Cks:List CK→List Value→Prop
 | [],[]=>True
 | k::ks,v::vs=>ckOk k v∧Cks ks vs
 | _,_=>False
theorem Cks.append:∀ {a b:List CK} {u v:List Value},Cks a u→Cks b v→Cks (a++b) (u++v)
 | [],b,[],v,_,h=>h
 | k::a,b,x::u,v,h,h'=>⟨h.1,h.2.append h'⟩
 | [],_,_::_,_,h,_=>h.elim
 | _::_,_,[],_,h,_=>h.elim
theorem Cks.len:∀ {a:List CK} {u:List Value},Cks a u→u.length=a.length
 | [],[],_=>rfl
 | k::a,x::u,h=>by simp [Cks.len h.2]
 | [],_::_,h=>h.elim
 | _::_,[],h=>h.elim
section
variable {H : Type} {enc : TypeId × Value → H} {P : Program} {w : World} {base : Nat} {spare : Nat → Bool} {held : Bool}
end
section
variable {H : Type} {enc : TypeId × Value → H} {P : Program} {W : World} {spare : Nat → Bool} {held : Bool}
end
end Go.E
