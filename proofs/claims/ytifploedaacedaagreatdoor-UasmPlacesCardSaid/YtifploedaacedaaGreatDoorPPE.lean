/- Parts of the proof of UasmPlaces, packed by a program: an evaluator over the given code, functions as plain texts, their laws. -/
import Derived.Test.YtifploedaacedaaGreatDoorPPD
set_option linter.unusedVariables false
set_option linter.unusedSimpArgs false
namespace Go.Proofs.YtifploedaacedaaGreatDoorE
set_option maxRecDepth 100000
open Go Go.E Go.Proofs
theorem zjG (c x:UInt8) (l:List UInt8):pieces c (x::l)=if x=c then []::pieces c l else match pieces c l with
  | []=>[[x]]
  | y::z=>(x::y)::z:=rfl
theorem zgo (c:UInt8) (a b:List UInt8):pieces c (a++c::b)=pieces c a++pieces c b:=by
 induction a with
 | nil=>
   show pieces c (c::b)=pieces c []++_
   conv=>lhs;unfold pieces
   rw [if_pos rfl];rfl
 | cons x a ih=>
   rw [List.cons_append]
   rw [zjG,zjG c x a,ih]
   split
   ·rfl
   ·cases hp:pieces c a with
    | nil=>exact absurd hp (zdR c a)
    | cons y z=>rfl
theorem zgp {c:UInt8} {l:List UInt8} (h:c∉l):pieces c l=[l]:=by
 induction l with
 | nil=>rfl
 | cons x l ih=>
   simp only [List.mem_cons,not_or] at h
   unfold pieces
   rw [if_neg (fun e=>h.1 e.symm),ih h.2]
def zdL (n:Nat):UInt8:=UInt8.ofNat (48+n%10)
def zjH:Nat→Nat→List UInt8→List UInt8
 | 0,_,s=>s
 | k+1,n,s=>if n=0 then s else zjH k (n/10) (zdL n::s)
def za5 (n:Nat):List UInt8:=zjH 5 (n/10) [zdL n]
theorem zol:∀ (k n:Nat) (s:List UInt8),(zjH k n s).length≤s.length+k
 | 0,n,s=>by simp [zjH]
 | k+1,n,s=>by
   unfold zjH
   split
   ·omega
   ·have:=zol k (n/10) (zdL n::s)
    simp only [List.length_cons] at this
    omega
theorem zom {n:Nat} (hn:n≤1000000):Int.tmod (n:Int) 10=((n%10:Nat):Int)∧IntKind.wrap .i64 (48+((n%10:Nat):Int))=((48+n%10:Nat):Int)∧IntKind.wrap .u8 (((48+n%10:Nat)):Int)=((zdL n).toNat:Int)∧IntKind.wrap .i64 (Int.tdiv (n:Int) 10)=((n/10:Nat):Int):=by
 have h10:=Nat.mod_lt n (show 0<10 by omega)
 refine ⟨by rw [Int.tmod_eq_emod_of_nonneg (by omega)];rfl,?_,?_,?_⟩
 ·rw [wrap64 (by omega) (by omega)];omega
 ·rw [zgH (by omega) (by omega)]
  unfold zdL
  rw [UInt8.toNat_ofNat']
  omega
 ·have:Int.tdiv (n:Int) 10=((n/10:Nat):Int):=by rw [Int.tdiv_eq_ediv_of_nonneg (by omega)];rfl
  rw [this]
  exact wrap64 (by omega) (by omega)
theorem zm6 (n:Nat):zel [.int .u8 ((zdL n).toNat:Int)]=some [zdL n]:=by
 simp only [zel]
 simp
theorem zkw [Sym]:∀ (k n:Nat) (s:List UInt8) (st:SS),n<10^k→n≤1000000→s.length+k≤1000→k≤10→∃ st',Ext st st'∧zbP 3 [.int .i64 n,.string (mkS s)] st=some (0,[.string (mkS (zjH k n s))],st')
 | 0,n,s,st,hn,hb,hs,hk=>by
   have e:n=0:=by simpa using hn
   subst e
   have h:¬ (0:Int)<((0:Nat):Int):=by omega
   refine ⟨st,Ext.refl _,zcj _ _ st ?_⟩
   simp only [zbQ,zdf h,zcf]
   rfl
 | k+1,n,s,st,hn,hb,hs,hk=>by
   by_cases h0:n=0
   ·have h:¬ (0:Int)<(n:Int):=by omega
    refine ⟨st,Ext.refl _,zcj _ _ st ?_⟩
    simp only [zbQ,zdf h,zcf,zjH,if_pos h0]
   ·have h:(0:Int)<(n:Int):=by omega
    obtain ⟨d1,d2,d3,d4⟩:=zom hb
    have x1:Ext st (st.new (.cells [.int .u8 ((zdL n).toNat:Int)] 1)):=(Ext.refl _).new _
    have hby:=zkr (st:=st.new (.cells [.int .u8 ((zdL n).toNat:Int)] 1)) (b:=st.next) (z:=1) (n:=1) (cap:=1) SS.new_get rfl (zm6 n)
    have hcat:zdi (mkS [zdL n]) (mkS s)=some (mkS (zdL n::s)):=zgK (a:=[zdL n]) (b:=s) (by simp;omega)
    obtain ⟨st',x2,hl⟩:=zkw k (n/10) (zdL n::s) (st.new (.cells [.int .u8 ((zdL n).toNat:Int)] 1)) (by rw [Nat.pow_succ] at hn;omega) (by omega) (by simp;omega) (by omega)
    refine ⟨st',x1.trans x2,zcj _ _ st ?_⟩
    simp only [zbQ,zdt h,zct,d1,d2,d3,d4,hby,zob,hcat,zab]
    rw [hl]
    simp only [zjH,if_neg h0]
theorem zm7 [Sym] (n:Nat) (hn:n<100000) (st:SS):∃ N,st.next≤N∧cc 25 [.int .i64 n] st=some (.string (mkS (za5 n)),st.adv N):=by
 obtain ⟨d1,d2,d3,d4⟩:=zom (n:=n) (by omega)
 have hby:=zkr (st:=(st.ro st.next).new (.cells [.int .u8 ((zdL n).toNat:Int)] 1)) (b:=st.next) (z:=1) (n:=1) (cap:=1) (SS.new_get (st:=st.ro st.next)) rfl (zm6 n)
 obtain ⟨st',x2,hl⟩:=zkw 5 (n/10) [zdL n] ((st.ro st.next).new (.cells [.int .u8 ((zdL n).toNat:Int)] 1)) (by omega) (by omega) (by simp) (by omega)
 refine ⟨st'.next,by have:=x2.next;simp at this;omega,zg0 _ st ?_⟩
 simp only [zfd,d1,d2,d3,d4,SS.ro_next,hby,zob]
 rw [hl]
 rfl
def P1 (p:List UInt8):Option (PLine×Bool):=match zcp p with
 | .error _=>none
 | .ok ts=>match readT ts with
   | .error _=>none
   | .ok x=>some (x,decide (1<ts.length))
def zbN:Nat→List (PLine×Bool)→List PLine
 | _,[]=>[]
 | i,x::r=>if x.2=true then { x.1 with ln:=i+1 }::zbN (i+1) r else zbN (i+1) r
theorem zlT:∀ (ps:List (List UInt8)) (xs:List (PLine×Bool)) (i:Nat),ps.map P1=xs.map some→∃ tss,zcq i ps=.ok tss∧zcw i tss=.ok (zbN i xs)
 | [],xs,i,h=>by
   cases xs with
   | nil=>exact ⟨[],rfl,rfl⟩
   | cons x r=>cases h
 | p::r,xs,i,h=>by
   cases xs with
   | nil=>cases h
   | cons x xr=>
     simp only [List.map_cons,List.cons.injEq] at h
     obtain ⟨h1,h2⟩:=h
     obtain ⟨tss,g1,g2⟩:=zlT r xr (i+1) h2
     unfold P1 at h1
     cases hl:zcp p with
     | error c=>rw [hl] at h1;cases h1
     | ok ts=>
       rw [hl] at h1
       simp only at h1
       cases hr:readT ts with
       | error o=>rw [hr] at h1;cases h1
       | ok y=>
         rw [hr] at h1
         cases h1
         refine ⟨ts::tss,by unfold zcq;rw [hl,g1],?_⟩
         unfold zcw
         rw [hr]
         simp only
         rw [g2]
         simp only [zbN]
         by_cases hk:1<ts.length
         ·simp only [hk,decide_true,if_true]
         ·simp only [hk,decide_false,if_false,Bool.false_eq_true]
theorem zoQ {t:List UInt8} {xs:List (PLine×Bool)} (h:(pieces 10 t).map P1=xs.map some):zgi t=.ok (zbN 0 xs):=by
 obtain ⟨tss,g1,g2⟩:=zlT _ xs 0 h
 unfold zgi
 rw [g1]
 exact g2
def zbo:List UInt8:=[46,111,114,103,32]
def zhh:List UInt8:=[115,101,113,61,101,110,100]
def zb0:List UInt8:=[46,97,108,105,103,110,32]
def zfT:List UInt8:=[104,101,114,101,58,32,115,101,113,61,106,109,112,32,116,111,61,104,101,114,101]
def ends:Nat→List UInt8
 | 0=>[]
 | k+1=>ends k++(zhh++[10])
def zb7 (o a w:Nat):List UInt8:=(zbo++za5 o++[10])++ends w++zb0++za5 a++([10]++zfT++[10])
def zp5:List UInt8:=[111,114,103]
def zmw:List UInt8:=[97,108,105,103,110]
def zcT:List UInt8:=[104,101,114,101]
def zjW:List UInt8:=[115,101,113]
def zfI (o:Nat):PLine:=⟨0,[],zp5,[⟨[],o,6⟩],[]⟩
def zcd:PLine:=⟨0,[],[],[],[⟨zjW,1,⟨[101,110,100],0,5⟩⟩]⟩
def zc8 (a:Nat):PLine:=⟨0,[],zmw,[⟨[],a,8⟩],[]⟩
def zbX:PLine:=⟨0,zcT,[],[],[⟨zjW,7,⟨[106,109,112],0,11⟩⟩,⟨[116,111],15,⟨zcT,0,18⟩⟩]⟩
theorem P1_org {o:Nat} (h:o<301):P1 (zbo++za5 o)=some (zfI o,true):=by
 have e:(List.range 301).map (fun o=>P1 (zbo++za5 o))=(List.range 301).map fun o=>some (zfI o,true):=by kernel_rfl
 exact List.map_inj_left.1 e o (List.mem_range.2 h)
theorem zsv {a:Nat} (h:a<65):P1 (zb0++za5 a)=some (zc8 a,true):=by
 have e:(List.range 65).map (fun o=>P1 (zb0++za5 o))=(List.range 65).map fun o=>some (zc8 o,true):=by kernel_rfl
 exact List.map_inj_left.1 e a (List.mem_range.2 h)
theorem P1_end:P1 zhh=some (zcd,true):=by kernel_rfl
theorem zty:P1 zfT=some (zbX,true):=by kernel_rfl
theorem P1_nil:P1 []=some (⟨0,[],[],[],[]⟩,false):=by kernel_rfl
theorem no10 {o:Nat} (h:o<301):(10:UInt8)∉za5 o:=by
 have:∀ o,o<301→(za5 o).all (fun c=>decide (c≠10))=true:=by decide+kernel
 intro hm
 have:=List.all_eq_true.1 (this o h) 10 hm
 simp at this
theorem zkx (r:List UInt8):∀ w,pieces 10 (ends w++r)=List.replicate w zhh++pieces 10 r
 | 0=>rfl
 | w+1=>by
   have e:ends (w+1)++r=ends w++(zhh++10::r):=by simp [ends]
   rw [e,zkx (zhh++10::r) w,zgo,zgp (by decide),List.replicate_succ']
   simp
theorem zon {o a w:Nat} (ho:o<301) (ha:a<65):pieces 10 (zb7 o a w)=(zbo++za5 o)::(List.replicate w zhh++[zb0++za5 a,zfT,[]]):=by
 have e:zb7 o a w=(zbo++za5 o)++10::(ends w++((zb0++za5 a)++10::(zfT++10::[]))):=by simp [zb7]
 rw [e,zgo,zgp,zkx,zgo,zgp,zgo,zgp (by decide)]
 ·rfl
 ·simp only [List.mem_append,not_or]
  exact ⟨by decide,no10 (by omega)⟩
 ·simp only [List.mem_append,not_or]
  exact ⟨by decide,no10 ho⟩
def zjX (o a w:Nat):List (PLine×Bool):=(zfI o,true)::(List.replicate w (zcd,true)++[(zc8 a,true),(zbX,true),(⟨0,[],[],[],[]⟩,false)])
theorem zp6 {o a w:Nat} (ho:o<301) (ha:a<65):zgi (zb7 o a w)=.ok (zbN 0 (zjX o a w)):=by
 apply zoQ
 rw [zon ho ha]
 simp only [zjX,List.map_cons,List.map_append,List.map_replicate,List.map_nil,P1_org ho,zsv ha,P1_end,zty,P1_nil]
def za6 (x:PLine) (i:Nat):PLine:={ x with ln:=i }
def endW (p i:Nat):Nat→List (Nat×PLine)
 | 0=>[]
 | k+1=>(p,za6 zcd (i+1))::endW (p+1) (i+1) k
theorem zoo (r:List (PLine×Bool)):∀ (w i:Nat) (l:Lay),l.pl+w≤2048→zdX l (zbN i (List.replicate w (zcd,true)++r))=zdX { l with pl:=l.pl+w,wds:=l.wds++endW l.pl i w } (zbN (i+w) r)
 | 0,i,l,h=>by simp [endW]
 | w+1,i,l,h=>by
   have h1:zds l (za6 zcd (i+1))=some { l with pl:=l.pl+1,wds:=l.wds++[(l.pl,za6 zcd (i+1))] }:=by
    rw [zfy]
    show (some l).bind (fun l=>zdu l (za6 zcd (i+1)))=_
    rw [zob]
    unfold zdu
    rw [if_neg (by simp [za6,zcd]),if_neg (by simp [za6,zcd]),if_pos (by omega)]
   have h2:zbN i (List.replicate (w+1) (zcd,true)++r)=za6 zcd (i+1)::zbN (i+1) (List.replicate w (zcd,true)++r):=by
    rw [List.replicate_succ,List.cons_append]
    show (if true=true then _ else _)=_
    rw [if_pos rfl];rfl
   rw [h2]
   show (match zds l (za6 zcd (i+1)) with | none=>_ | some l'=>zdX l' _)=_
   rw [h1]
   simp only
   rw [zoo r w (i+1) _ (by simp only;omega)]
   simp only [show l.pl+1+w=l.pl+(w+1) by omega,show i+1+w=i+(w+1) by omega,List.append_assoc]
   rfl
def zaO (p a:Nat):Nat:=(p+a-1)/a*a
def zfU (o a w:Nat):Lay:=⟨zaO (o+w) a+1,[(zcT,(zaO (o+w) a:Int))],endW o 1 w++[(zaO (o+w) a,za6 zbX (w+3))],[]⟩
theorem zrx {o a w:Nat} (ho:o<301) (ha0:1≤a) (ha:a<65) (hw:w≤20):zdX zdY (zbN 0 (zjX o a w))=.ok (zfU o a w):=by
 have hc:zaO (o+w) a<o+w+a:=by
  have:=Nat.div_mul_le_self (o+w+a-1) a
  unfold zaO
  omega
 have h1:zds zdY (za6 (zfI o) 1)=some { zdY with pl:=o }:=by
  rw [zfy]
  show (some zdY).bind (fun l=>zdu l (za6 (zfI o) 1))=_
  rw [zob]
  have e:zdu zdY (za6 (zfI o) 1)=(if (o:Int)≤2048 then some { zdY with pl:=(o:Int).toNat } else none):=by
   unfold zdu
   rw [if_pos (by simp [za6,zfI,zp5])]
   unfold zci
   simp only [za6,zfI]
   rw [if_pos (show zp5=[111,114,103] from rfl)]
   have:((zdY.pl:Int)≤(o:Int)):=by show ((0:Nat):Int)≤_;omega
   simp [this]
  rw [e,if_pos (by omega),Int.toNat_natCast]
 have h2:zbN 0 (zjX o a w)=za6 (zfI o) 1::zbN 1 (List.replicate w (zcd,true)++[(zc8 a,true),(zbX,true),(⟨0,[],[],[],[]⟩,false)]):=by
  show (if true=true then _ else _)=_
  rw [if_pos rfl];rfl
 rw [h2]
 show (match zds zdY (za6 (zfI o) 1) with | none=>_ | some l'=>zdX l' _)=_
 rw [h1]
 simp only
 rw [zoo _ w 1 _ (by simp only;omega)]
 have h3:zbN (1+w) [(zc8 a,true),(zbX,true),(⟨0,[],[],[],[]⟩,false)]=[za6 (zc8 a) (1+w+1),za6 zbX (1+w+1+1)]:=rfl
 rw [h3]
 have h4:∀ l:Lay,l.pl=o+w→zds l (za6 (zc8 a) (1+w+1))=some { l with pl:=zaO (o+w) a }:=by
  intro l hl
  rw [zfy]
  show (some l).bind (fun l=>zdu l (za6 (zc8 a) (1+w+1)))=_
  rw [zob]
  unfold zdu
  rw [if_pos (by simp [za6,zc8,zmw])]
  unfold zci
  simp only [za6,zc8]
  rw [if_neg (by decide),if_pos (show zmw=[97,108,105,103,110] from rfl)]
  rw [if_pos ⟨trivial,trivial,by omega,by omega,by rw [hl,Int.toNat_natCast];unfold zaO at hc;omega⟩,hl,Int.toNat_natCast]
  rfl
 have h5:∀ l:Lay,l.pl=zaO (o+w) a→l.nms=[]→zds l (za6 zbX (1+w+1+1))=some { l with pl:=l.pl+1,nms:=[(zcT,(l.pl:Int))],wds:=l.wds++[(l.pl,za6 zbX (1+w+1+1))] }:=by
  intro l hl hn
  rw [zfy]
  have e:(if (za6 zbX (1+w+1+1)).lab=[] then some l else l.define (za6 zbX (1+w+1+1)).lab l.pl)=some { l with nms:=[(zcT,(l.pl:Int))] }:=by
   rw [if_neg (by simp [za6,zbX,zcT])]
   unfold Lay.define
   rw [hn]
   show (if _ then none else _)=_
   rw [if_neg (by simp [zbz,za6,zbX,zcT])]
   rfl
  rw [e,zob]
  unfold zdu
  rw [if_neg (by simp [za6,zbX]),if_neg (by simp [za6,zbX]),if_pos (by simp only;omega)]
 show (match zds _ (za6 (zc8 a) (1+w+1)) with | none=>_ | some l'=>zdX l' _)=_
 rw [h4 _ rfl]
 simp only
 show (match zds _ (za6 zbX (1+w+1+1)) with | none=>_ | some l'=>zdX l' _)=_
 rw [h5 _ rfl rfl]
 simp only [zdX,zfU,zdY,List.nil_append,show 1+w+1+1=w+3 by omega]
def W7:Wd:=zaC.set 8 7
def WJ (n:Nat):Wd:=(zaC.set 8 1).set 10 n
def zgV (p:Nat):Nat→List Wd→List Wd
 | 0,ws=>ws
 | k+1,ws=>zgV (p+1) k (ws.set p W7)
theorem ztz (nms:Nms) (i:Nat):zaW nms zaC (za6 zcd i).prs=(W7,0):=by kernel_rfl
theorem zlU (nms:Nms) (N:Nat) (r:List (Nat×PLine)):∀ (w p i:Nat) (ws:List Wd),zbV nms N (endW p i w++r) ws=zbV nms N r (zgV p w ws)
 | 0,p,i,ws=>rfl
 | w+1,p,i,ws=>by
   have h:zbV nms N (endW p i (w+1)++r) ws=if (zaW nms zaC (za6 zcd (i+1)).prs).2≠0 then .error (i+1,(zaW nms zaC (za6 zcd (i+1)).prs).2)
     else if ((zcm ((zaW nms zaC (za6 zcd (i+1)).prs).1.getD 8 0) ((zaW nms zaC (za6 zcd (i+1)).prs).1.getD 10 0) p).any fun t=>decide ((N:Int)<t.1+t.2))=true then .error (i+1,1)
     else zbV nms N (endW (p+1) (i+1) w++r) (ws.set p (zaW nms zaC (za6 zcd (i+1)).prs).1):=rfl
   rw [h,ztz]
   have hr:zcm (W7.getD 8 0) (W7.getD 10 0) p=[]:=rfl
   simp only [hr,List.any_nil]
   rw [if_neg (by simp),if_neg (by simp),zlU nms N r w (p+1) (i+1)]
   rfl
theorem ziQ:∀ (w p:Nat) (ws:List Wd),(zgV p w ws).length=ws.length
 | 0,p,ws=>rfl
 | w+1,p,ws=>by unfold zgV;rw [ziQ w,List.length_set]
theorem zlV:∀ (w p:Nat) (ws:List Wd) (i:Nat),i<ws.length→p+w≤ws.length→(zgV p w ws).getD i zaC=if p≤i∧i<p+w then W7 else ws.getD i zaC
 | 0,p,ws,i,h,_=>by rw [if_neg (by omega)];rfl
 | w+1,p,ws,i,h,hp=>by
   unfold zgV
   rw [zlV w (p+1) (ws.set p W7) i (by rw [List.length_set];exact h) (by rw [List.length_set];omega)]
   by_cases h1:p+1≤i∧i<p+1+w
   ·rw [if_pos h1,if_pos (by omega)]
   ·rw [if_neg h1]
    by_cases h2:p=i
    ·subst h2
     rw [if_pos (by omega),List.getD_eq_getElem?_getD,List.getElem?_set_self h];rfl
    ·rw [if_neg (by omega),List.getD_eq_getElem?_getD,List.getElem?_set_ne h2,← List.getD_eq_getElem?_getD]
theorem zsw {n:Nat} (h:n<2048) (i:Nat):zaW [(zcT,(n:Int))] zaC (za6 zbX i).prs=(WJ n,0):=by
 have e1:∀ (l:Nms),zaW l zaC (za6 zbX i).prs=zaW l (zaC.set 8 1) [⟨[116,111],15,⟨zcT,0,18⟩⟩]:=fun l=>by kernel_rfl
 rw [e1]
 have hf:zeC [116,111]=some 10:=by kernel_rfl
 have hb:¬ zgh [116,111]=0:=by unfold zgh;rw [hf];decide+kernel
 have hnm:zfY [(zcT,(n:Int))] [116,111] ⟨zcT,0,18⟩=some (n:Int):=by
  unfold zfY
  rw [if_neg (by simp [zcT])]
  have h1:¬ (0:Int)≤inT (namesT [116,111]) zcT:=by decide+kernel
  rw [if_neg h1]
  simp [zbz]
 have hfit:fitsT (n:Int) (zav 10)=true:=by
  rw [zjF,show zav 10=11 from rfl]
  exact ⟨by omega,by omega⟩
 have hs:zbI (zaC.set 8 1) [116,111] (n:Int)=(WJ n,0):=by
  unfold zbI
  rw [hf]
  show (if fitsT (n:Int) (zav 10)=true then _ else _)=_
  rw [if_pos hfit];rfl
 unfold zaW
 simp only
 rw [if_neg hb,hnm]
 simp only [hs,if_true]
 rfl
def zd0 (o a w:Nat):List Wd:=(zgV o w (List.replicate (zaO (o+w) a+1) zaC)).set (zaO (o+w) a) (WJ (zaO (o+w) a))
theorem zry {o a w:Nat} (ho:o<301) (ha0:1≤a) (ha:a<65) (hw:w≤20):asmT (zb7 o a w)=.ok (zd0 o a w,[]):=by
 have hc:zaO (o+w) a<o+w+a:=by
  have:=Nat.div_mul_le_self (o+w+a-1) a
  unfold zaO
  omega
 unfold asmT
 rw [zp6 ho ha]
 simp only
 rw [zrx ho ha0 ha hw]
 simp only [zhA]
 have hs:sizeT (zfU o a w)=zaO (o+w) a+1:=by
  unfold sizeT zfU
  simp
 have hwd:zbV (zfU o a w).nms (sizeT (zfU o a w)) (zfU o a w).wds (List.replicate (sizeT (zfU o a w)) zaC)=.ok (zd0 o a w):=by
  rw [hs]
  show zbV [(zcT,(zaO (o+w) a:Int))] (zaO (o+w) a+1) (endW o 1 w++[(zaO (o+w) a,za6 zbX (w+3))]) _=_
  rw [zlU]
  unfold zbV
  simp only
  rw [zsw (by omega)]
  have hr:zcm ((WJ (zaO (o+w) a)).getD 8 0) ((WJ (zaO (o+w) a)).getD 10 0) (zaO (o+w) a)=[((zaO (o+w) a:Int),1)]:=rfl
  simp only [hr,List.any_cons,List.any_nil,Bool.or_false]
  rw [if_neg (by simp),if_neg (by simp)]
  rfl
 rw [hwd]
 rfl
theorem zlW (o a w:Nat):(zd0 o a w).length=zaO (o+w) a+1:=by
 unfold zd0
 rw [List.length_set,ziQ,List.length_replicate]
theorem zp7 {o a w i:Nat} (ha0:1≤a) (hi:i<zaO (o+w) a+1):(zd0 o a w).getD i zaC=if i=zaO (o+w) a then WJ (zaO (o+w) a) else if o≤i∧i<o+w then W7 else zaC:=by
 have hge:=zkW (p:=o+w) (n:=a) ha0
 have hge':o+w≤zaO (o+w) a:=hge
 unfold zd0
 by_cases h:i=zaO (o+w) a
 ·rw [if_pos h,h,List.getD_eq_getElem?_getD,List.getElem?_set_self (by rw [ziQ,List.length_replicate];omega)];rfl
 ·rw [if_neg h,List.getD_eq_getElem?_getD,List.getElem?_set_ne (fun e=>h e.symm),← List.getD_eq_getElem?_getD,zlV _ _ _ _ (by rw [List.length_replicate];omega) (by rw [List.length_replicate];omega)]
  split
  ·rfl
  ·rw [List.getD_eq_getElem?_getD,List.getElem?_replicate,if_pos hi];rfl
end Go.Proofs.YtifploedaacedaaGreatDoorE
namespace Go.Proofs.YtifploedaacedaaGreatDoorE
open Go Go.E Go.Proofs
def zhi (k:Nat):Nat:=(zcc.drop k).sum
theorem zlX {k:Nat} (h:k<12):zhi k=zav k+zhi (k+1)∧zhi k≤64:=by
 have:∀ k,k<12→zhi k=zav k+zhi (k+1)∧zhi k≤64:=by decide+kernel
 exact this k h
theorem zm8 {w:Wd} (hw:w.length=12):zd8 (zcc.drop 12) (w.drop 12)=0:=by
 rw [List.drop_of_length_le (l:=w) (by omega)]
 rfl
theorem zlY {w:Wd} (hw:w.length=12) {k:Nat} (h:k<12):zd8 (zcc.drop k) (w.drop k)=w.getD k 0+2^zav k*zd8 (zcc.drop (k+1)) (w.drop (k+1)):=by
 rw [zlJ h,getD_drop (by omega)];rfl
theorem zp8 {w:Wd} (hw:w.length=12) (hg:zcC w=true):∀ (m k:Nat),12=m+k→∃ X:Nat,zd8 (zcc.drop k) (w.drop k)=X∧X<2^zhi k
 | 0,k,h=>by
   have:k=12:=by omega
   subst this
   exact ⟨0,zm8 hw,Nat.two_pow_pos _⟩
 | m+1,k,h=>by
   obtain ⟨X,h1,h2⟩:=zp8 hw hg m (k+1) (by omega)
   obtain ⟨p,hp,hlt⟩:=zkS hg (k:=k) (by omega)
   have ht:=(zlX (k:=k) (by omega)).1
   refine ⟨p+2^zav k*X,by rw [zlY hw (by omega),h1,hp];push_cast;rfl,?_⟩
   rw [ht,Nat.pow_add]
   have h3:2^zav k*(X+1)≤2^zav k*2^zhi (k+1):=Nat.mul_le_mul_left _ h2
   rw [Nat.mul_add,Nat.mul_one] at h3
   omega
theorem zlZ [Sym] (w:Wd) (hw:w.length=12) (hg:zcC w=true) (j:Nat) (base:SS) (hj:base.mem.get j=some (.cells (wRow w) 1)) (hlt:j<base.next):∀ (m:Nat),m≤12→∀ (s:SS),Ext base s→
  ∃ s',Ext s s'∧zbC 4 [.int .u64 (zd8 (zcc.drop m) (w.drop m)),.slice (some ⟨j,0,none⟩) 12 12,.int .i64 ((m:Int)-1)] s=some (0,[.int .u64 (zd9 w)],s')
 | 0,_,s,he=>by
   have h:¬ (0:Int)≤((0:Nat):Int)-1:=by omega
   refine ⟨s,Ext.refl _,zdU _ _ _ s ?_⟩
   simp only [zc5,zdf h,zcf]
   rfl
 | m+1,hm,s,he=>by
   have e1:(((m+1:Nat):Int)-1)=(m:Int):=by omega
   rw [e1]
   have h:(0:Int)≤(m:Int):=by omega
   have c1:=ztf (s.ro s.next)
   have x1:Ext s (((s.ro s.next).new (.cells (wRow zfH) 1)).ro s.lim):=⟨by simp,rfl,fun i hi=>by show ((s.ro s.next).new _).mem.get i=_;rw [SS.new_old (by simp;omega)];rfl⟩
   have m1:(((s.ro s.next).new (.cells (wRow zfH) 1)).ro s.lim).mem.get s.next=some (.cells (wRow zfH) 1):=SS.new_get (st:=s.ro s.next)
   have hmi:m<12:=by omega
   have el:∀ i:Nat,zaz (.slice (some ⟨i,0,none⟩) 12 12) (m:Int) 1=some (i,0+m*1):=fun i=>plS hmi
   have l3:(((s.ro s.next).new (.cells (wRow zfH) 1)).ro s.lim).ld s.next (0+m*1)=some (.int .i64 ((2^zav m:Nat):Int)):=by
    rw [SS.ld_cells m1,Nat.zero_add,Nat.mul_one]
    exact zr8 (by omega)
   have m2:(((s.ro s.next).new (.cells (wRow zfH) 1)).ro s.lim).mem.get j=some (.cells (wRow w) 1):=(he.trans x1).get hlt hj
   obtain ⟨p,hp,hpl⟩:=zkS hg (k:=m) (by omega)
   have l7:(((s.ro s.next).new (.cells (wRow zfH) 1)).ro s.lim).ld j (0+m*1)=some (.int .i64 (p:Int)):=by
    rw [SS.ld_cells m2,Nat.zero_add,Nat.mul_one,zgM,getD_some (by omega),hp];rfl
   obtain ⟨X,hX,hXl⟩:=zp8 hw hg (12-(m+1)) (m+1) (by omega)
   obtain ⟨Y,hY,hYl⟩:=zp8 hw hg (12-m) m (by omega)
   have ht:=zlX (k:=m) (by omega)
   have hpow:2^zav m≤2^11:=Nat.pow_le_pow_right (by omega) (zhc m)
   have hYb:Y<2^64:=zll hYl (Nat.pow_le_pow_right (by omega) ht.2)
   have hstep:=zlY hw (k:=m) (by omega)
   rw [hX,hY,hp] at hstep
   have hYe:Y=p+2^zav m*X:=by
    have h2:((p+2^zav m*X:Nat):Int)=(Y:Int):=by rw [hstep];push_cast;rfl
    omega
   have hXY:X*2^zav m≤Y:=by rw [Nat.mul_comm];omega
   have w4:IntKind.wrap .u64 ((2^zav m:Nat):Int)=((2^zav m:Nat):Int):=zc3 (by omega) (by omega)
   have w5:IntKind.wrap .u64 ((X:Int)*((2^zav m:Nat):Int))=((X*2^zav m:Nat):Int):=by
    rw [← Int.natCast_mul]
    exact zc3 (by omega) (by omega)
   have w8:IntKind.wrap .u64 (p:Int)=(p:Int):=zc3 (by omega) (by omega)
   have w9:IntKind.wrap .u64 (((X*2^zav m:Nat):Int)+(p:Int))=(Y:Int):=by
    have:((X*2^zav m:Nat):Int)+(p:Int)=(Y:Int):=by rw [hYe,Nat.mul_comm];push_cast;omega
    rw [this]
    exact zc3 (by omega) (by omega)
   have w10:IntKind.wrap .i64 ((m:Int)-1)=(m:Int)-1:=wrap64 (by omega) (by omega)
   obtain ⟨s',hs',ih⟩:=zlZ w hw hg j base hj hlt m (by omega) _ (he.trans x1)
   rw [hY] at ih
   rw [hX]
   refine ⟨s',x1.trans hs',zdU _ _ _ s ?_⟩
   simp only [zc5,zdt h,zct,c1,zob,el,SS.ro_next,l3,l7,zaa,w4,w5,w8,w9,w10]
   exact ih
theorem zsx [Sym] (w:Wd) (hw:zkX w) (st:SS):∃ n,st.next≤n∧cc 18 [wV w] st=some (.int .u64 (zd9 w),st.adv n):=by
 have hc:(wV w).cells.toList=wRow w:=zaF _
 have hm:((st.ro st.next).new (.cells (wRow w) 0)).mem.get st.next=some (.cells (wRow w) 0):=SS.new_get (st:=st.ro st.next)
 have l2:((st.ro st.next).new (.cells (wRow w) 0)).ldN st.next 0 12=some (wV w):=by rw [SS.ldN_cells hm,zd4 (by rw [za4,hw.1])];rfl
 have c3:=zr7 w hw.1 ((st.ro st.next).new (.cells (wRow w) 0))
 have hj:((((st.ro st.next).new (.cells (wRow w) 0)).new (.cells (wRow w) 0)).new (.cells (wRow w) 1)).mem.get (((st.ro st.next).new (.cells (wRow w) 0)).next+1)=some (.cells (wRow w) 1):=SS.new_get (st:=((st.ro st.next).new (.cells (wRow w) 0)).new (.cells (wRow w) 0))
 obtain ⟨s',hs',hl⟩:=zlZ w hw.1 hw.2 _ _ hj (by simp) 12 (zlr _) _ (Ext.refl _)
 rw [zm8 hw.1] at hl
 have hl':zbC 4 [.int .u64 0,.slice (some ⟨((st.ro st.next).new (.cells (wRow w) 0)).next+1,0,none⟩) 12 12,.int .i64 11] ((((st.ro st.next).new (.cells (wRow w) 0)).new (.cells (wRow w) 0)).new (.cells (wRow w) 1))=_:=hl
 refine ⟨s'.next,by have:=hs'.next;simp at this;omega,zhU _ st ?_⟩
 simp only [zfP,hc,SS.ro_next,l2,zob,c3]
 rw [hl',zob]
 rfl
end Go.Proofs.YtifploedaacedaaGreatDoorE
namespace Go.E
open Go
section
variable {P : Program} {L : Lk} {c1 c2 : CallF}
theorem zmx (hc:zfM c1 c2) {ops:List Oper}:∀ (l:List Oper) (τ:Tm) (st:St) (r:Tm×St),opsE P L c1 ops l τ st=some r→opsE P L c2 ops l τ st=some r
 | [],τ,st,r,h=>h
 | o::l,τ,st,r,h=>by
   simp only [opsE] at h ⊢
   cases hw:wantedE ops τ o with
   | true=>
     rw [hw] at h
     simp only [zct,zbi] at h ⊢
     obtain ⟨x,hx,h⟩:=h
     exact ⟨x,znJ hc hx,zmx hc l _ _ _ h⟩
   | false=>
     rw [hw] at h
     simp only [zcf] at h ⊢
     exact zmx hc l _ _ _ h
theorem zop:∀ n,zlh (zaE P L n) (zaE P L (n+1))
 | 0,c,τ,st,r,h=>by cases h
 | n+1,c,τ,st,r,h=>by
   have ih:=zop n
   have hc:zfM (zaP L (zaE P L n)) (zaP L (zaE P L (n+1))):=zl8 ih
   unfold zaE at h ⊢
   cases c<;>simp only at h ⊢<;>try exact h
   case region id ops d=>
    cases d<;>simp only [zmi] at h ⊢
    ·obtain ⟨x,hx,h⟩:=h
     exact ⟨x,zmx hc _ _ _ _ hx,h⟩
    ·obtain ⟨x,hx,h⟩:=h
     exact ⟨x,zl7 hc _ _ _ _ _ hx,h⟩
   case seq a b=>
    simp only [zbi] at h ⊢
    obtain ⟨⟨e,τ1,st1⟩,hx,h⟩:=h
    refine ⟨(e,τ1,st1),ih _ _ _ _ hx,?_⟩
    cases e<;>simp only at h ⊢<;>first | exact ih _ _ _ _ h | exact h
   case cond x a b=>
    cases hv:rho L τ x with
    | none=>rw [hv] at h;cases h
    | some v=>
      rw [hv] at h
      try simp only [zob]
      cases v<;>(try simp only [zob] at h)<;>(try simp only)<;>try (cases h;done)
      rename_i bb
      cases bb<;>exact ih _ _ _ _ h
   case block id body=>
    simp only [zbi] at h ⊢
    obtain ⟨⟨e,τ1,st1⟩,hx,h⟩:=h
    refine ⟨(e,τ1,st1),ih _ _ _ _ hx,?_⟩
    cases e<;>exact h
   case loop body=>
    simp only [zbi] at h ⊢
    obtain ⟨⟨e,τ1,st1⟩,hx,h⟩:=h
    refine ⟨(e,τ1,st1),ih _ _ _ _ hx,?_⟩
    cases e<;>simp only at h ⊢<;>first | exact ih _ _ _ _ h | exact h
theorem zsy {n m:Nat} (h:n≤m):zlh (zaE P L n) (zaE P L m):=by
 obtain ⟨k,rfl⟩:=Nat.le.dest h
 clear h
 induction k with
 | zero=>exact fun _ _ _ _ h=>h
 | succ k ih=>exact fun c τ st r h=>zop _ _ _ _ _ (ih _ _ _ _ h)
def okP (nx:Nat) (r:Option (Value×St)):Bool:=match r with
 | some (.bool b,s)=>b&&Nat.ble nx s.next
 | _=>false
theorem zoR [Sym] (hL:L.Ok P) {f:FuncId} {args:List Value} {st:SS} {n:Nat} (hx:L.ext f args=none) (hcn:L.con f args st.next=none) (hp:L.pureF f=true)
  (h:okP st.next (runF P L n f args ⟨st.mem,st.next,st.next,[]⟩)=true):∃ N,st.next≤N∧cS P L f args st=some (.bool true,st.adv N):=by
 cases hr:runF P L n f args ⟨st.mem,st.next,st.next,[]⟩ with
 | none=>rw [hr] at h;cases h
 | some r=>
   have hrun:=zsE hL hr
   rw [hr] at h
   obtain ⟨v,s'⟩:=r
   have hv:v=.bool true∧st.next≤s'.next:=by
    unfold okP at h
    cases v<;>simp only at h<;>try (cases h;done)
    rename_i b
    rw [zae] at h
    exact ⟨by rw [h.1],Nat.le_of_ble_eq_true h.2⟩
   obtain ⟨rfl,hN⟩:=hv
   refine ⟨s'.next,hN,?_⟩
   rw [zhG]
   refine ⟨rfl,n,fun m hm base log=>⟨log,?_,.refl _ _ _⟩⟩
   unfold runE zaP at hrun
   unfold zaP
   have hcn':L.con f args (st.toE base log).next=none:=hcn
   rw [hx] at hrun ⊢
   simp only at hrun ⊢
   rw [hcn] at hrun
   rw [hcn']
   simp only [hp,zct,zbi] at hrun ⊢
   obtain ⟨a,ha,c,hc,h1⟩:=hrun
   refine ⟨a,ha,c,hc,?_⟩
   cases hb:Nat.ble args.length a.2.ntmps with
   | false=>rw [hb] at h1;cases h1
   | true=>
     rw [hb] at h1
     simp only [zct,zbi] at h1 ⊢
     obtain ⟨⟨e,τ,s1⟩,h2,h3⟩:=h1
     refine ⟨(e,τ,s1),zsy hm _ _ _ _ h2,?_⟩
     cases e<;>simp only [zbi] at h3 ⊢<;>first
      | (cases h3;done)
      | (obtain ⟨vs,h4,h5⟩:=h3
         refine ⟨vs,h4,?_⟩
         cases hq:(s1.log.isEmpty&&flat3 (za3 vs)) with
         | false=>rw [hq] at h5;cases h5
         | true=>
           rw [hq] at h5
           simp only [zct,zsj,zpj] at h5 ⊢
           obtain ⟨h6,h7⟩:=h5
           exact ⟨h6,by rw [← h7];rfl⟩)
end
end Go.E
namespace Go.Proofs.YtifploedaacedaaGreatDoorE
open Go Go.E Go.Proofs
noncomputable def zgW:List (Nat×AObj):=[(6,.table [.chan (some 6)]),(7,.table [.chan (some 7)]),(0,.table fieldsC),(2,.table asciiC)]
noncomputable def st0:SS:=⟨zeH zgW,12,12⟩
theorem gd0:Gd st0:=⟨by simp [st0,zeH,zgW,PT.get_upd],by simp [st0,zeH,zgW,PT.get_upd],by simp [st0,zeH,zgW,PT.get_upd],by simp [st0,zeH,zgW,PT.get_upd],zlr _⟩
theorem globIn:∀ g,Lk0.glob g=true→g∈zgW.map (·.1):=fun g h=>by
 have h':(Nat.beq g 6||Nat.beq g 7||Nat.beq g 0||Nat.beq g 2)=true:=h
 simp only [Bool.or_eq_true,zax,decide_eq_true_eq] at h'
 rcases h' with ((rfl | rfl) | rfl) | rfl<;>simp [zgW]
theorem tabLt:∀ x∈zgW,x.1<12:=fun x hx=>by
 simp only [zgW,List.mem_cons,List.not_mem_nil,or_false] at hx
 rcases hx with rfl | rfl | rfl | rfl<;>decide
abbrev symE (a4:TypeId) (u4:Value) (a5:TypeId) (u5:Value):Sym where
 v i:=if i=6 then .iface a4 u4 else .iface a5 u5
 ok i:=by
  refine .inr (.inr ?_)
  split<;>exact ⟨_,_,rfl⟩
abbrev laidF:DataW Unit:=.agg ((zbB.map fun m=>(m.1,(m.2:Int))).map fun m=>.agg [.lit (.string m.1),.lit (.int .i64 m.2)])
abbrev laidS:DataW Unit:=.agg (Lib.asciiSpaceTab.map fun m=>.lit (.int .u8 m))
theorem law_at {f:Nat} {fn:Func} (hf:Lk0.func f=some (f,fn)) {W:World} {laid:List (String×DataW Unit)} (h:laidMet Tryz.prog laid W) (h4:∃ nm d,("strconv.ErrSyntax",DataW.iface nm d)∈laid) (h5:∃ nm d,("strconv.ErrRange",DataW.iface nm d)∈laid)
  (hF:("camshaft/uword.fields",laidF)∈laid) (hS:("strings.asciiSpace",laidS)∈laid)
  {args:List Value} (hargs:∀ x∈args,flat3 x=true) (hlaw:∀ [Sym],∃ st',cc f args st0=some (.bool true,st')):
  Calls Tryz.prog f args.toArray W fun e W'=>e=.returned (.bool true)∧RowKit.Below W.heap.size W W':=by
 obtain ⟨nm4,d4,m4⟩:=h4
 obtain ⟨nm5,d5,m5⟩:=h5
 obtain ⟨a4,u4,c4⟩:=zlA h m4 (g:=6) (t:=208) (by kernel_rfl) (by kernel_rfl) Tryz.underlying208
 obtain ⟨a5,u5,c5⟩:=zlA h m5 (g:=7) (t:=208) (by kernel_rfl) (by kernel_rfl) Tryz.underlying208
 letI:Sym:=symE a4 u4 a5 u5
 have hE:ErrSym:=⟨⟨a4,u4,rfl⟩,⟨a5,u5,rfl⟩⟩
 obtain ⟨oF,f1,f2⟩:=zpv h hF (g:=0) (kk:=.i64) (by kernel_rfl) (by kernel_rfl) Tryz.underlying128 Tryz.underlying127 (by kernel_rfl) rfl rfl rfl Tryz.underlying9 Tryz.underlying3 rfl rfl (by kernel_rfl) (by kernel_rfl) _ (by simp [zbB]) rfl
 obtain ⟨oS,s1,s2⟩:=zqr h hS (g:=2) (kk:=.u8) (by kernel_rfl) (by kernel_rfl) Tryz.underlying233 Tryz.underlying5 (by kernel_rfl) _ rfl
 obtain ⟨st',hl⟩:=hlaw
 refine law_cS zaj (zsV hE) hf (l:=zgW) (nx:=12) hl rfl hargs (fun x hx=>?_) globIn tabLt
 simp only [zgW,List.mem_cons,List.not_mem_nil,or_false] at hx
 rcases hx with rfl | rfl | rfl | rfl
 ·exact zqL (i:=6) c4
 ·exact zqL (i:=7) c5
 ·exact ⟨oF,f1,f2 _⟩
 ·exact ⟨oS,s1,s2 _⟩
end Go.Proofs.YtifploedaacedaaGreatDoorE
namespace Go.Proofs.YtifploedaacedaaGreatDoorE
set_option maxRecDepth 1000000
open Go Go.E Go.Proofs
theorem zp9:okP st0.next (runF Tryz.prog Lk0 2000 15 [] ⟨st0.mem,st0.next,st0.next,[]⟩)=true:=by kernel_rfl
theorem zrz [Sym]:∃ N,st0.next≤N∧cc 15 [] st0=some (.bool true,st0.adv N):=
 zoR (st:=st0) (f:=15) (args:=[]) (n:=2000) zaj (by kernel_rfl) (by kernel_rfl) (by kernel_rfl) zp9
end Go.Proofs.YtifploedaacedaaGreatDoorE
namespace Go.Proofs.YtifploedaacedaaGreatDoorE
open Go Go.E Go.Proofs
theorem zk0:∀ w,(ends w).length=8*w
 | 0=>rfl
 | w+1=>by
   show (ends w++(zhh++[10])).length=_
   rw [List.length_append,zk0 w]
   show 8*w+8=_
   omega
theorem zoq (n:Nat):(za5 n).length≤6:=zol 5 (n/10) [zdL n]
theorem zky [Sym] (o a w:Nat) (h:List UInt8) (hh:h.length≤100) (hw:w≤20) (st:SS):∀ (k i:Nat),w=k+i→zat 7 [.int .i64 o,.int .i64 a,.int .i64 w,.string (mkS (h++ends i)),.int .i64 i] st=some (0,[.int .i64 o,.int .i64 a,.int .i64 w,.string (mkS (h++ends w))],st)
 | 0,i,hk=>by
   have e:i=w:=by omega
   subst e
   have hlt:¬ (i:Int)<(i:Int):=by omega
   refine zcS _ _ _ _ _ st ?_
   simp only [zcb,zdf hlt,zcf]
 | k+1,i,hk=>by
   have hlt:(i:Int)<(w:Int):=by omega
   have hl:=zk0 i
   have hcat:zdi (mkS (h++ends i)) ⟨#[115,101,113,61,101,110,100,10]⟩=some (mkS (h++ends (i+1))):=by
    have:=zgK (a:=h++ends i) (b:=zhh++[10]) (by simp only [List.length_append,hl];show h.length+8*i+8≤_;omega)
    rw [List.append_assoc] at this
    exact this
   have hw1:=zbj (i:=i) (by omega)
   refine zcS _ _ _ _ _ st ?_
   simp only [zcb,zdt hlt,zct,hcat,zob,zab,hw1]
   exact zky o a w h hh hw st k (i+1) (by omega)
theorem zoS [Sym] (o a w:Nat) (s:ByteArray) (ha0:1≤a) (ha:a≤64) (hp0:o+w≤1000) (st:SS):∀ (k p:Nat),zaO (o+w) a=p+k→o+w≤p→zat 12 [.int .i64 o,.int .i64 a,.int .i64 w,.string s,.int .i64 p] st=some (0,[.int .i64 o,.int .i64 w,.string s,.int .i64 (zaO (o+w) a)],st):=by
 have hT:zaO (o+w) a<o+w+a:=by
  have:=Nat.div_mul_le_self (o+w+a-1) a
  unfold zaO
  omega
 have hrem:∀ p:Nat,(aI .rem .i64 (p:Int) (a:Int)).bind (asI .i64)=some ((p%a:Nat):Int):=fun p=>by
  have hz:¬ ((a:Int)=0):=by omega
  have:(p:Int).tmod (a:Int)=((p%a:Nat):Int):=by rw [Int.tmod_eq_emod_of_nonneg (by omega),← Int.natCast_emod]
  simp only [aI,zdf hz,zcf,zob,zaa,this]
 intro k
 induction k with
 | zero=>
   intro p hk hp
   have e:p%a=0:=by rw [show p=(o+w+a-1)/a*a by unfold zaO at hk;omega,Nat.mul_mod_left]
   have h0:((p%a:Nat):Int)=0:=by omega
   refine zcG _ _ _ _ _ st ?_
   simp only [zbZ,hrem,zob,zdt h0,znt,zcf]
   rw [hk];rfl
 | succ k ih=>
   intro p hk hp
   have hpm:p%a≠0:=fun e=>by
    have d1:a∣p:=Nat.dvd_of_mod_eq_zero e
    have d2:a∣zaO (o+w) a:=Nat.dvd_mul_left _ _
    rw [hk] at d2
    have d3:a∣k+1:=(Nat.dvd_add_right d1).1 d2
    have:=Nat.le_of_dvd (Nat.succ_pos k) d3
    omega
   have h0:¬ ((p%a:Nat):Int)=0:=by omega
   have hw1:=zbj (i:=p) (by omega)
   refine zcG _ _ _ _ _ st ?_
   simp only [zbZ,hrem,zob,zdf h0,znf,zct,hw1]
   exact ih (p+1) (by omega) (by omega)
theorem WJ_ok {n:Nat} (h:n<2048):zkX (WJ n):=by
 refine ⟨rfl,zjE.2 fun k hk=>?_⟩
 by_cases h10:k=10
 ·subst h10
  rw [zjF,show zav 10=11 from rfl]
  show 0≤(n:Int)∧(n:Int)<2^11
  omega
 ·have e:(WJ n).getD k 0=(WJ 0).getD k 0:=by
   unfold WJ
   rw [List.getD_eq_getElem?_getD,List.getD_eq_getElem?_getD,List.getElem?_set_ne (fun e=>h10 e.symm),List.getElem?_set_ne (fun e=>h10 e.symm)]
  rw [e]
  have:∀ k,k<12→fitsT ((WJ 0).getD k 0) (zav k)=true:=by decide+kernel
  exact this k hk
theorem W7_ok:zkX W7:=⟨rfl,by decide+kernel⟩
theorem zor [Sym] {o c w:Nat} {wc:Value} (W:List Wd) (hlen:W.length=c+1) (hget:∀ i,i<c+1→W.getD i zaC=if i=c then WJ c else if o≤i∧i<o+w then W7 else zaC) (ho:o≤300) (hw:w≤20) (hc:c<2048) (hge:o+w≤c) (base:SS) (hll:base.lim≤base.next) (hcr:Rd base wc (rowsF zdx W) 1 W.length):∀ (k i:Nat) (s:SS),W.length=k+i→Ext base s→
  ∃ s',zat 18 [.int .i64 o,.int .i64 w,.int .i64 c,wc,.int .i64 W.length,.int .i64 i] s=some (0,[],s'):=by
 intro k
 induction k with
 | zero=>
   intro i s hk he
   have h:¬ (i:Int)<(W.length:Int):=by omega
   refine ⟨s,zaY _ _ _ _ _ _ s ?_⟩
   simp only [zaT,zdf h,zcf]
 | succ k ih=>
   intro i s hk he
   have h:(i:Int)<(W.length:Int):=by omega
   obtain ⟨x,hg⟩:∃ x,W[i]?=some x:=⟨_,zge (by omega)⟩
   have hgd:W.getD i zaC=x:=by rw [List.getD_eq_getElem?_getD,hg];rfl
   have hx:=hget i (by omega)
   rw [hgd] at hx
   have hwd:zkX x:=by
    rw [hx]
    split
    ·exact WJ_ok hc
    ·split
     ·exact W7_ok
     ·exact zoh
   obtain ⟨p1,b1,_,b3⟩:=(hcr.ext he).load (j:=(i:Int)) (by omega) h (zbO (f:=zdx) (z:=1) (fun _=>rfl) W i x hg) rfl
   have l2:s.ld p1.1 p1.2=some (.int .u64 (zd9 x)):=b3 0 (by omega)
   have u2:asI .u64 (.int .u64 (zd9 x))=some (zd9 x):=rfl
   obtain ⟨s4,e4,a4,x4,n4⟩:=zjs (st:=s) (he.ll hll) (r:=Z12) (row:=Z12) rfl rfl
   have e4':(s.new (.cells [.int .i64 0,.int .i64 0,.int .i64 0,.int .i64 0,.int .i64 0,.int .i64 0,.int .i64 0,.int .i64 0,.int .i64 0,.int .i64 0,.int .i64 0,.int .i64 0] 0)).st s.next 0 [.int .i64 0,.int .i64 0,.int .i64 0,.int .i64 0,.int .i64 0,.int .i64 0,.int .i64 0,.int .i64 0,.int .i64 0,.int .i64 0,.int .i64 0,.int .i64 0]=some s4:=e4
   have he4:=he.trans x4
   have hw1:=zbj (i:=i) (by omega)
   have hn5:IntKind.wrap .i64 ((o:Int)+(w:Int))=((o+w:Nat):Int):=znu (by omega) (by omega)
   have fin:∀ s9:SS,Ext s s9→At s9 s.next (wRow x)→∃ n s',s9.ldN s.next 0 12=some (wV x)∧cc 18 [wV x] s9=some (.int .u64 (zd9 x),s9.adv n)∧
     zat 18 [.int .i64 o,.int .i64 w,.int .i64 c,wc,.int .i64 W.length,.int .i64 ((i+1:Nat):Int)] (s9.adv n)=some (0,[],s'):=fun s9 xs a9=>by
    obtain ⟨n,hn,c⟩:=zsx x hwd s9
    obtain ⟨s',g⟩:=ih (i+1) (s9.adv n) (by omega) ((he.trans xs).trans ((Ext.refl _).adv hn))
    exact ⟨n,s',a9.ldN (by rw [za4,hwd.1]),c,g⟩
   by_cases hi:i=c
   ·rw [if_pos hi] at hx
    have q1:(o:Int)≤(i:Int):=by omega
    have q2:¬ (i:Int)<((o+w:Nat):Int):=by omega
    have q3:(i:Int)=(c:Int):=by omega
    obtain ⟨s17,e17,a17,m17,n17⟩:=a4.sto (k:=8) (vs:=[.int .i64 1]) (row':=wRow (zaC.set 8 1)) rfl rfl
    obtain ⟨s18,e18,a18,m18,n18⟩:=a17.sto (k:=10) (vs:=[.int .i64 c]) (row':=wRow x) rfl (by rw [ziH (by rw [za4];decide),← zn7,hx];rfl)
    have xs18:Ext s s18:=zaw (zaw x4 m17 (zlr _)) m18 (zlr _)
    obtain ⟨n,s',f1,f2,f3⟩:=fin s18 xs18 a18
    refine ⟨s',zaY _ _ _ _ _ _ s ?_⟩
    simp only [zaT,zdt h,zct,b1,l2,u2,zob,e4',zdt q1,hn5,zdf q2,zcf,zdt q3,e17,e18,f1,f2,decide_true,znt,hw1]
    exact f3
   ·rw [if_neg hi] at hx
    have q3:¬ (i:Int)=(c:Int):=by omega
    by_cases h1:o≤i
    ·have q1:(o:Int)≤(i:Int):=by omega
     by_cases h2:i<o+w
     ·have q2:(i:Int)<((o+w:Nat):Int):=by omega
      rw [if_pos ⟨h1,h2⟩] at hx
      obtain ⟨s6,e6,a6,m6,n6⟩:=a4.sto (k:=8) (vs:=[.int .i64 7]) (row':=wRow x) rfl (by rw [hx];rfl)
      obtain ⟨n,s',f1,f2,f3⟩:=fin s6 (zaw x4 m6 (zlr _)) a6
      refine ⟨s',zaY _ _ _ _ _ _ s ?_⟩
      simp only [zaT,zdt h,zct,b1,l2,u2,zob,e4',zdt q1,hn5,zdt q2,e6,zdf q3,zcf,f1,f2,decide_true,znt,hw1]
      exact f3
     ·have q2:¬ (i:Int)<((o+w:Nat):Int):=by omega
      rw [if_neg (fun hh=>h2 hh.2)] at hx
      obtain ⟨n,s',f1,f2,f3⟩:=fin s4 x4 (by rw [hx,zm1];exact a4)
      refine ⟨s',zaY _ _ _ _ _ _ s ?_⟩
      simp only [zaT,zdt h,zct,b1,l2,u2,zob,e4',zdt q1,hn5,zdf q2,zdf q3,zcf,f1,f2,decide_true,znt,hw1]
      exact f3
    ·have q1:¬ (o:Int)≤(i:Int):=by omega
     rw [if_neg (fun hh=>h1 hh.1)] at hx
     obtain ⟨n,s',f1,f2,f3⟩:=fin s4 x4 (by rw [hx,zm1];exact a4)
     refine ⟨s',zaY _ _ _ _ _ _ s ?_⟩
     simp only [zaT,zdt h,zct,b1,l2,u2,zob,e4',zdf q1,zdf q3,zcf,f1,f2,decide_true,znt,hw1]
     exact f3
theorem zoT (o a w:Nat) (hw:w≤20):zdi ⟨#[46,111,114,103,32]⟩ (mkS (za5 o))=some (mkS (zbo++za5 o))∧zdi (mkS (zbo++za5 o)) ⟨#[10]⟩=some (mkS (zbo++za5 o++[10]))∧(zbo++za5 o++[10]).length≤100∧
  zdi (mkS (zbo++za5 o++[10]++ends w)) ⟨#[46,97,108,105,103,110,32]⟩=some (mkS (zbo++za5 o++[10]++ends w++zb0))∧zdi (mkS (zbo++za5 o++[10]++ends w++zb0)) (mkS (za5 a))=some (mkS (zbo++za5 o++[10]++ends w++zb0++za5 a))∧
  zdi (mkS (zbo++za5 o++[10]++ends w++zb0++za5 a)) ⟨#[10,104,101,114,101,58,32,115,101,113,61,106,109,112,32,116,111,61,104,101,114,101,10]⟩=some (mkS (zb7 o a w))∧(mkS (zb7 o a w)).size≤65536:=by
 have hdo:=zoq o
 have hda:=zoq a
 have hel:=zk0 w
 have h1:zbo.length=5:=rfl
 have h2:zb0.length=7:=rfl
 have h3:([10]++zfT++[10]).length=23:=rfl
 have h4:([10]:List UInt8).length=1:=rfl
 have q1:=zgK (a:=zbo) (b:=za5 o) (by omega)
 have q2:=zgK (a:=zbo++za5 o) (b:=[10]) (by simp only [List.length_append];omega)
 have q4:=zgK (a:=zbo++za5 o++[10]++ends w) (b:=zb0) (by simp only [List.length_append,hel];omega)
 have q5:=zgK (a:=zbo++za5 o++[10]++ends w++zb0) (b:=za5 a) (by simp only [List.length_append,hel];omega)
 have q6:=zgK (a:=zbo++za5 o++[10]++ends w++zb0++za5 a) (b:=[10]++zfT++[10]) (by rw [h3];simp only [List.length_append,hel];omega)
 have e1:(⟨#[46,111,114,103,32]⟩:ByteArray)=mkS zbo:=rfl
 have e2:(⟨#[10]⟩:ByteArray)=mkS [10]:=rfl
 have e3:(⟨#[46,97,108,105,103,110,32]⟩:ByteArray)=mkS zb0:=rfl
 have e4:(⟨#[10,104,101,114,101,58,32,115,101,113,61,106,109,112,32,116,111,61,104,101,114,101,10]⟩:ByteArray)=mkS ([10]++zfT++[10]):=rfl
 have e5:zb7 o a w=zbo++za5 o++[10]++ends w++zb0++za5 a++([10]++zfT++[10]):=by unfold zb7;rfl
 rw [e1,e2,e3,e4,e5]
 refine ⟨q1,q2,by simp only [List.length_append];omega,q4,q5,q6,?_⟩
 rw [zrU,List.length_append,h3]
 simp only [List.length_append,hel]
 omega
theorem zoU [Sym] (o a w:Nat) (g1:¬ (o:Int)<0) (g2:¬ 300<(o:Int)) (g3:¬ (a:Int)<1) (g4:¬ 64<(a:Int)) (g5:¬ (w:Int)<1) (g6:¬ 20<(w:Int)):∃ st',cc 6 [.int .i64 o,.int .i64 a,.int .i64 w] st0=some (.bool true,st'):=by
 obtain ⟨N,hN,hal⟩:=zrz
 have x1:Ext st0 (st0.adv N):=(Ext.refl _).adv hN
 have hl0:st0.lim≤st0.next:=zlr _
 obtain ⟨k5,k6,hhl,k12,k15,k16,ptl⟩:=zoT o a w (by omega)
 have hge:o+w≤zaO (o+w) a:=zkW (by omega)
 have hcl:zaO (o+w) a<o+w+a:=by
  have:=Nat.div_mul_le_self (o+w+a-1) a
  unfold zaO
  omega
 obtain ⟨n3,hn3,c3⟩:=zm7 o (by omega) (st0.adv N)
 have x3:Ext (st0.adv N) ((st0.adv N).adv n3):=(Ext.refl _).adv hn3
 have f7:=zky o a w (zbo++za5 o++[10]) hhl (by omega) ((st0.adv N).adv n3) w 0 rfl
 have f7':zat 7 [.int .i64 o,.int .i64 a,.int .i64 w,.string (mkS (zbo++za5 o++[10])),.int .i64 0] ((st0.adv N).adv n3)=some (0,[.int .i64 o,.int .i64 a,.int .i64 w,.string (mkS (zbo++za5 o++[10]++ends w))],(st0.adv N).adv n3):=by
  have e:zbo++za5 o++[10]++ends 0=zbo++za5 o++[10]:=List.append_nil _
  rw [e] at f7
  exact f7
 obtain ⟨n13,hn13,c13⟩:=zm7 a (by omega) ((st0.adv N).adv n3)
 have x13:Ext ((st0.adv N).adv n3) (((st0.adv N).adv n3).adv n13):=(Ext.refl _).adv hn13
 have w17:IntKind.wrap .i64 ((o:Int)+(w:Int))=((o+w:Nat):Int):=znu (by omega) (by omega)
 have f18:=zoS o a w (mkS (zb7 o a w)) (by omega) (by omega) (by omega) (((st0.adv N).adv n3).adv n13) (zaO (o+w) a-(o+w)) (o+w) (by omega) (zlr _)
 have x013:=(x1.trans x3).trans x13
 have ha:=asm_ok (gd0.ext x013) (x013.ll hl0) (mkS (zb7 o a w)) ptl
 rw [zbK,zry (by omega) (by omega) (by omega) (by omega)] at ha
 obtain ⟨s23,wv,ev,c23,x23,o1,o2⟩:=ha
 have x023:=x013.trans x23
 have hll:=x023.ll hl0
 have t0:∀ (a b c:Value),zao (.tuple #[a,b,c]) 0=some a:=fun _ _ _=>rfl
 have t1:∀ (a b c:Value),zao (.tuple #[a,b,c]) 1=some b:=fun _ _ _=>rfl
 have t2:∀ (a b c:Value),zao (.tuple #[a,b,c]) 2=some c:=fun _ _ _=>rfl
 have y1:Ext s23 (s23.new (.cells NN 0)):=(Ext.refl _).new _
 have y2:Ext (s23.new (.cells NN 0)) ((s23.new (.cells NN 0)).new (.cells Z2 0)):=(Ext.refl _).new _
 have q1:At ((s23.new (.cells NN 0)).new (.cells Z2 0)) s23.next NN:=(At.new hll NN).ext y2
 have q2:At ((s23.new (.cells NN 0)).new (.cells Z2 0)) (s23.next+1) Z2:=At.new (st:=s23.new (.cells NN 0)) (y1.ll hll) Z2
 obtain ⟨s29,e29,a29,m29,n29⟩:=q1.stV (k:=0) (n:=2) (v:=zkZ wv ev) (vs:=[wv,ev]) rfl rfl (by simp [(Own.cell o1).2,(Own.cell o2).2]) (row':=[wv,ev]) rfl
 obtain ⟨s30,e30,a30,m30,n30⟩:=(q2.mod m29 (by simp)).stV (k:=0) (n:=2) (v:=zbL (0,0)) (vs:=Z2) rfl rfl rfl (row':=Z2) rfl
 have x30:Ext s23 s30:=zaw (zaw (y1.trans y2) m29 (zlr _)) m30 (by omega)
 have l31:s30.ld s23.next 0=some wv:=(a29.mod m30 (by simp)).ld
 have hlen:(lenV wv).bind (asI .i64)=some ((zd0 o a w).length:Int):=by rw [o1.len];rfl
 have w33:IntKind.wrap .i64 ((zaO (o+w) a:Int)+1)=((zd0 o a w).length:Int):=by rw [zlW,wrap64 (by omega) (by omega)];omega
 obtain ⟨s36,f36⟩:=zor (o:=o) (c:=zaO (o+w) a) (w:=w) (zd0 o a w) (zlW o a w) (fun i hi=>zp7 (by omega) hi) (by omega) (by omega) (by omega) hge s30 ((x023.trans x30).ll hl0) (o1.rd.ext x30) (zd0 o a w).length 0 s30 rfl (Ext.refl _)
 have f36':zat 18 [.int .i64 o,.int .i64 w,.int .i64 (zaO (o+w) a),wv,.int .i64 (zd0 o a w).length,.int .i64 0] s30=some (0,[],s36):=f36
 have b0:Nat.beq 0 0=true:=rfl
 refine ⟨s36,zdd _ _ _ st0 ?_⟩
 simp only [zaI,hal,zob,zal,znt,zcf,zdf g1,zdf g2,zdf g3,zdf g4,zdf g5,zdf g6,c3,zab,k5,k6]
 rw [f7',zob]
 simp only [zgs,zgz,zob,zaa,zab,k12,c13,k15,k16,w17]
 rw [f18,zob]
 simp only [zgs,zgz,zob,zaa,zab,c23,t0,t1,t2,e29,SS.new_next,e30,decide_true,znt,zcf,l31,hlen,w33]
 rw [f36',zob]
 simp only [b0,zct]
theorem uasmPlaces_ok [Sym] (o a w:Int):∃ st',cc 6 [.int .i64 o,.int .i64 a,.int .i64 w] st0=some (.bool true,st'):=by
 obtain ⟨N,hN,hal⟩:=zrz
 have x1:Ext st0 (st0.adv N):=(Ext.refl _).adv hN
 have hl0:st0.lim≤st0.next:=zlr _
 have early:∀ z,z=zaI cc zat o a w st0→z=some (.bool true,st0.adv N)→∃ st',cc 6 [.int .i64 o,.int .i64 a,.int .i64 w] st0=some (.bool true,st'):=fun z h1 h2=>⟨_,zdd _ _ _ st0 (h1 ▸ h2)⟩
 by_cases g1:o<0
 ·refine early _ rfl ?_
  simp only [zaI,hal,zob,zal,znt,zcf,zdt g1,zct]
 by_cases g2:300<o
 ·refine early _ rfl ?_
  simp only [zaI,hal,zob,zal,znt,zcf,zdf g1,zdt g2,zct]
 by_cases g3:a<1
 ·refine early _ rfl ?_
  simp only [zaI,hal,zob,zal,znt,zcf,zdf g1,zdf g2,zdt g3,zct]
 by_cases g4:64<a
 ·refine early _ rfl ?_
  simp only [zaI,hal,zob,zal,znt,zcf,zdf g1,zdf g2,zdf g3,zdt g4,zct]
 by_cases g5:w<1
 ·refine early _ rfl ?_
  simp only [zaI,hal,zob,zal,znt,zcf,zdf g1,zdf g2,zdf g3,zdf g4,zdt g5,zct]
 by_cases g6:20<w
 ·refine early _ rfl ?_
  simp only [zaI,hal,zob,zal,znt,zcf,zdf g1,zdf g2,zdf g3,zdf g4,zdf g5,zdt g6,zct]
 obtain ⟨o,rfl⟩:=Int.eq_ofNat_of_zero_le (show 0≤o by omega)
 obtain ⟨a,rfl⟩:=Int.eq_ofNat_of_zero_le (show 0≤a by omega)
 obtain ⟨w,rfl⟩:=Int.eq_ofNat_of_zero_le (show 0≤w by omega)
 exact zoU o a w g1 g2 g3 g4 g5 g6
end Go.Proofs.YtifploedaacedaaGreatDoorE
