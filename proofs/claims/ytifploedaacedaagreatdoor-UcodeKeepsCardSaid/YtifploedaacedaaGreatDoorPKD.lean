/- Parts of the proof of UcodeKeeps, packed by a program: an evaluator over the given code, functions as plain texts, their laws. -/
import Derived.Test.YtifploedaacedaaGreatDoorPKC
set_option linter.unusedVariables false
set_option linter.unusedSimpArgs false
namespace Go.Proofs.YtifploedaacedaaGreatDoorE
open Go Go.E Go.Proofs
def plRow (b:Nat):List Value:=(List.range 12).map fun i=>ptr b i
theorem zmj (b:Nat) {k:Nat} (h:k<12):(plRow b)[k]?=some (ptr b k):=by
 unfold plRow
 rw [List.getElem?_map,List.getElem?_range h];rfl
theorem ziS [Sym] (b:Nat) (st:SS):cc 53 [ptr b 0] st=some (.slice (some ⟨st.next,0,none⟩) 12 12,st.new (.cells (plRow b) 1)):=by
 refine zkX _ st ?_
 have h1:zar (ptr b 0)=some (ptr b 0):=rfl
 simp only [ziQ,h1,zob,zaf]
 rfl
def fitsT (x:Int) (n:Nat):Bool:=decide (0≤x∧x<2^n)
theorem zox [Sym] (x:Int) (n:Nat) (hn:n≤62) (st:SS):cc 118 [.int .i64 x,.int .i64 n] st=some (.bool (fitsT x n),st.adv st.next):=by
 refine zmK _ _ st ?_
 by_cases h:0≤x
 ·have hb:¬ ((n:Int)<0):=by omega
  have h1:(aI .shr .i64 x (n:Int)).bind (asI .i64)=some (x/2^n):=by
   have e:min ((n:Int)).toNat (IntKind.bits .i64)=n:=by
    show min ((n:Int)).toNat 64=n
    rw [Int.toNat_natCast];omega
   have e2:shrI .i64 x (n:Int)=x/2^n:=by
    unfold shrI
    rw [e]
    exact Int.fdiv_eq_ediv_of_nonneg x (Int.pow_nonneg (by omega))
   simp only [aI,zdf hb,zcf,zob,zaa,e2]
  have e3:decide (x/2^n=0)=fitsT x n:=by
   unfold fitsT
   have hp:(0:Int)<2^n:=Int.pow_pos (by omega)
   by_cases hx:x<2^n
   ·rw [zdt (Int.ediv_eq_zero_of_lt h hx),zdt ⟨h,hx⟩]
   ·rw [zdf (fun hc=>hx ?_),zdf (fun hc=>hx hc.2)]
    have:=Int.lt_ediv_add_one_mul_self x hp
    rw [hc] at this
    omega
  simp only [zhZ,zdt h,zct,h1,zob,e3]
  rfl
 ·have e3:fitsT x n=false:=zdf (fun hc=>h hc.1)
  simp only [zhZ,zdf h,zcf,e3]
  rfl
theorem ziT (k:Nat):zaH k≤11:=by
 by_cases h:k<12
 ·have:∀ k,k<12→zaH k≤11:=by decide+kernel
  exact this k h
 ·unfold zaH
  rw [List.getElem?_eq_none (by show 12≤k;omega)]
  decide
def zby (w:Wd) (f:List UInt8) (x:Int):Wd×Int:=match zev f with
 | none=>(w,5)
 | some k=>if fitsT x (zaH k)=true then (w.set k x,0) else (w,1)
theorem zcA (w:Wd) (f:List UInt8) (x:Int):(zby w f x).1.length=w.length:=by
 unfold zby
 repeat' split
 all_goals simp
theorem zkZ (w:Wd) (z:Int):flat3 (.tuple #[wV w,.int .i64 z])=true:=by
 have:zav (wV w)=true:=by
  show ((wRow w).toArray.toList.all zbL)=true
  simp [wRow,zbL]
 show ([wV w,.int .i64 z].all zav)=true
 simp only [List.all_cons,this,Bool.true_and,List.all_nil,Bool.and_true]
 rfl
theorem zrM (w:Wd) (k:Nat) (x:Int):wRow (w.set k x)=(wRow w).set k (.int .i64 x):=by simp [wRow,List.map_set]
theorem zk0 {row:List Value} {k:Nat} (h:k<row.length) (v:Value):zcm row k [v]=some (row.set k v):=by
 rw [zbr (by simp;omega)]
 congr 1
 rw [List.set_eq_take_append_cons_drop,if_pos h]
 simp
abbrev Z12:List Value:=[.int .i64 0,.int .i64 0,.int .i64 0,.int .i64 0,.int .i64 0,.int .i64 0,.int .i64 0,.int .i64 0,.int .i64 0,.int .i64 0,.int .i64 0,.int .i64 0]
theorem set_ok [Sym] (w:Wd) (hw:w.length=12) (f:List UInt8) (x:Int) (st:SS) (hg:Gd st):∃ n,st.next≤n∧cc 100 [wV w,.string (mkS f),.int .i64 x] st=some (.tuple #[wV (zby w f x).1,.int .i64 (zby w f x).2],st.adv n):=by
 have hc:(wV w).cells.toList=wRow w:=zaC _
 have hl:(wRow w).length=12:=by rw [za8,hw]
 have a0:At ((st.ro st.next).new (.cells (wRow w) 0)) st.next (wRow w):=At.new (st:=st.ro st.next) (zlr _) _
 have x1:Ext (st.ro st.next) ((st.ro st.next).new (.cells (wRow w) 0)):=(Ext.refl _).new _
 have a1:At (((st.ro st.next).new (.cells (wRow w) 0)).new (.cells Z12 0)) (st.next+1) Z12:=At.new (st:=(st.ro st.next).new (.cells (wRow w) 0)) (by simp) _
 have x2:Ext ((st.ro st.next).new (.cells (wRow w) 0)) (((st.ro st.next).new (.cells (wRow w) 0)).new (.cells Z12 0)):=(Ext.refl _).new _
 have g2:Gd (((st.ro st.next).new (.cells (wRow w) 0)).new (.cells Z12 0)):=(hg.ro (n:=st.next)).ext (x1.trans x2)
 have hn2:(((st.ro st.next).new (.cells (wRow w) 0)).new (.cells Z12 0)).next=st.next+2:=rfl
 obtain ⟨n3,hn3,c3⟩:=znw f _ g2
 have x3:Ext (((st.ro st.next).new (.cells (wRow w) 0)).new (.cells Z12 0)) ((((st.ro st.next).new (.cells (wRow w) 0)).new (.cells Z12 0)).adv n3):=(Ext.refl _).adv hn3
 have a0':=(a0.ext x2).ext x3
 have a1':=a1.ext x3
 cases hk:zev f with
 | none=>
   rw [hk] at c3
   have hs:zby w f x=(w,5):=by unfold zby;rw [hk]
   rw [hs]
   obtain ⟨s',f1,f2,f3,f4,_⟩:=zbY (n:=12) a1' rfl a0' hl (zf8 w)
   have h0:ixI none<0:=by decide
   refine ⟨s'.next,by have:=f4.next;simp at this;omega,zf9 _ _ _ st ?_⟩
   have hz:=zkZ w 5
   unfold wV at hz
   simp only [zgx,hc,SS.ro_next,SS.new_next,c3,zob,zaa,zdt h0,zct,f1,f2,f3,hz]
   rfl
 | some k=>
   rw [hk] at c3
   obtain ⟨fx,_,_,hlt⟩:=zkb hk
   have h0:¬ ixI (some k)<0:=by
    show ¬ (k:Int)<0
    omega
   have e1:zbl (ptr 0 0) 12 (ixI (some k)) 2=some (0,0+k*2):=zmS hlt
   have e2:=zkY (g2.ext x3) hlt
   have c4:=zox x (zaH k) (by have:=ziT k;omega) ((((st.ro st.next).new (.cells (wRow w) 0)).new (.cells Z12 0)).adv n3)
   have x4:Ext ((((st.ro st.next).new (.cells (wRow w) 0)).new (.cells Z12 0)).adv n3) (((((st.ro st.next).new (.cells (wRow w) 0)).new (.cells Z12 0)).adv n3).adv ((((st.ro st.next).new (.cells (wRow w) 0)).new (.cells Z12 0)).adv n3).next):=(Ext.refl _).adv (zlr _)
   have a0'':=a0'.ext x4
   have a1'':=a1'.ext x4
   by_cases hf:fitsT x (zaH k)=true
   ·rw [hf] at c4
    have hs:zby w f x=(w.set k x,0):=by unfold zby;rw [hk];exact if_pos hf
    rw [hs]
    have c5:=ziS st.next (((((st.ro st.next).new (.cells (wRow w) 0)).new (.cells Z12 0)).adv n3).adv ((((st.ro st.next).new (.cells (wRow w) 0)).new (.cells Z12 0)).adv n3).next)
    generalize hs4:(((((st.ro st.next).new (.cells (wRow w) 0)).new (.cells Z12 0)).adv n3).adv ((((st.ro st.next).new (.cells (wRow w) 0)).new (.cells Z12 0)).adv n3).next)=s4 at*
    have x5:Ext s4 (s4.new (.cells (plRow st.next) 1)):=(Ext.refl _).new _
    have a0v:=a0''.ext x5
    have a1v:=a1''.ext x5
    have hel:zas (.slice (some ⟨s4.next,0,none⟩) 12 12) (ixI (some k)) 1=some (s4.next,0+k*1):=by
     show zas (.slice (some ⟨s4.next,0,none⟩) 12 12) (k:Int) 1=_
     unfold zas
     have h1:(0:Int)≤(k:Int):=by omega
     have h2:(k:Int)<((12:Nat):Int):=by omega
     simp only [zdt h1,zdt h2,Bool.and_self,zct,Int.toNat_natCast]
    have hld:(s4.new (.cells (plRow st.next) 1)).ld s4.next (0+k*1)=some (ptr st.next k):=by
     rw [SS.ld_cells SS.new_get,show 0+k*1=k by omega,zmj _ hlt]
    obtain ⟨s6,e6,a6,m6,_⟩:=a0v.sto (k:=k) (vs:=[.int .i64 x]) (row':=wRow (w.set k x)) rfl (by rw [zrM];exact zk0 (by rw [hl];exact hlt) _)
    have a1w:=a1v.mod m6 (by simp)
    obtain ⟨s',f1,f2,f3,f4,_⟩:=zbY (n:=12) a1w rfl a6 (by rw [za8,List.length_set,hw]) (zf8 _)
    have hnl:zar (ptr st.next k)=some (ptr st.next k):=rfl
    have hz:=zkZ (w.set k x) 0
    unfold wV at hz
    have hq:∀ q:Nat,s4.next≥st.next:=fun _=>by rw [← hs4];simp;omega
    refine ⟨s'.next,by have:=f4.next;have:=m6.next;have:=x5.next;have:=hq 0;omega,zf9 _ _ _ st ?_⟩
    have e1':zbl (ptr 0 0) 12 (ixI (some k)) 2=some (0,0+k*2):=e1
    simp only [zgx,hc,SS.ro_next,SS.new_next,c3,zob,zaa,zdf h0,zcf,e1',e2,c4,zam,znt,c5,hel,hld,hnl,zaf,e6,f1,f2,f3,hz,zct]
    rfl
   ·have hf':fitsT x (zaH k)=false:=by simpa using hf
    rw [hf'] at c4
    have hs:zby w f x=(w,1):=by unfold zby;rw [hk];exact if_neg hf
    rw [hs]
    obtain ⟨s',f1,f2,f3,f4,_⟩:=zbY (n:=12) a1'' rfl a0'' hl (zf8 w)
    have hz:=zkZ w 1
    unfold wV at hz
    refine ⟨s'.next,by have:=f4.next;simp at this;omega,zf9 _ _ _ st ?_⟩
    simp only [zgx,hc,SS.ro_next,SS.new_next,c3,zob,zaa,zdf h0,zcf,e1,e2,c4,zam,znf,f1,f2,f3,hz,zct]
    rfl
end Go.Proofs.YtifploedaacedaaGreatDoorE
namespace Go.Proofs.YtifploedaacedaaGreatDoorE
open Go Go.E Go.Proofs
def zcE (w:Wd):Bool:=(List.range 12).all fun k=>fitsT (w.getD k 0) (zaH k)
structure Pls (st:SS) (b j:Nat) (w:Wd):Prop where
 pl:st.mem.get j=some (.cells (plRow b) 1)
 lt:j<st.next
 at0:At st b (wRow w)
section
variable {st st' : SS} {b j : Nat} {w : Wd}
theorem Pls.ext (h:Pls st b j w) (e:Ext st st'):Pls st' b j w:=⟨e.get h.lt h.pl,zll h.lt e.next,h.at0.ext e⟩
theorem plS {k:Nat} (h:k<12):zas (.slice (some ⟨j,0,none⟩) 12 12) (k:Int) 1=some (j,0+k*1):=by
 unfold zas
 have h1:(0:Int)≤(k:Int):=by omega
 have h2:(k:Int)<((12:Nat):Int):=by omega
 simp only [zdt h1,zdt h2,Bool.and_self,zct,Int.toNat_natCast]
theorem Pls.ptr (h:Pls st b j w) {k:Nat} (hk:k<12):st.ld j (0+k*1)=some (Go.E.ptr b k):=by
 rw [SS.ld_cells h.pl,show 0+k*1=k by omega,zmj _ hk]
theorem Pls.part (h:Pls st b j w) (hw:w.length=12) {k:Nat} (hk:k<12):st.ld b k=some (.int .i64 (w.getD k 0)):=by
 rw [h.at0.ld,zj9,List.getD_eq_getElem?_getD]
 rw [zge (by omega)]
 rfl
end
theorem zqq [Sym] (w:Wd) (hw:w.length=12) (b j:Nat) (st0:SS) (hg:Gd st0) (hp:Pls st0 b j w):∀ (m k:Nat) (st:SS),12=m+k→Ext st0 st→
  ∃ st',Ext st0 st'∧zc4 2 [.slice (some ⟨j,0,none⟩) 12 12,.int .i64 12,.int .i64 k] st=some (if ((List.range' k m).all fun k=>fitsT (w.getD k 0) (zaH k))=true then (0,[],st') else (1,[.bool false],st')):=by
 intro m
 induction m with
 | zero=>
   intro k st hk he
   have:k=12:=by omega
   subst this
   exact ⟨st,he,zd5 _ _ _ st rfl⟩
 | succ m ih=>
   intro k st hk he
   have hkl:k<12:=by omega
   have h1:(k:Int)<12:=by omega
   have hnl:zar (ptr b k)=some (ptr b k):=rfl
   have c:=zox (w.getD k 0) (zaH k) (by have:=ziT k;omega) st
   have hw1:=zbf (i:=k) (by omega)
   have e1:=(hp.ext he).ptr hkl
   have e2:=(hp.ext he).part hw hkl
   have e3:=zkY (hg.ext he) hkl
   have e4:=zmS hkl
   rw [List.range'_succ,List.all_cons]
   cases hf:fitsT (w.getD k 0) (zaH k) with
   | true=>
     obtain ⟨st',x',l⟩:=ih (k+1) (st.adv st.next) (by omega) (he.adv (zlr _))
     rw [hf] at c
     refine ⟨st',x',zd5 _ _ _ st ?_⟩
     simp only [zfk,zdt h1,zct,plS hkl,zob,e1,hnl,zaf,e2,zaa,e4,e3,c,zam,znt,zcf,hw1,Bool.true_and]
     exact l
   | false=>
     rw [hf] at c
     refine ⟨st.adv st.next,he.adv (zlr _),zd5 _ _ _ st ?_⟩
     simp only [zfk,zdt h1,zct,plS hkl,zob,e1,hnl,zaf,e2,zaa,e4,e3,c,zam,znf,Bool.false_and]
     rfl
theorem zsN [Sym] (w:Wd) (hw:w.length=12) (st:SS) (hg:Gd st):∃ n,st.next≤n∧cc 101 [wV w] st=some (.bool (zcE w),st.adv n):=by
 have hc:(wV w).cells.toList=wRow w:=zaC _
 have a0:At ((st.ro st.next).new (.cells (wRow w) 0)) st.next (wRow w):=At.new (st:=st.ro st.next) (zlr _) _
 have x1:Ext (st.ro st.next) ((st.ro st.next).new (.cells (wRow w) 0)):=(Ext.refl _).new _
 have c2:=ziS st.next ((st.ro st.next).new (.cells (wRow w) 0))
 have x2:Ext ((st.ro st.next).new (.cells (wRow w) 0)) (((st.ro st.next).new (.cells (wRow w) 0)).new (.cells (plRow st.next) 1)):=(Ext.refl _).new _
 have hp:Pls (((st.ro st.next).new (.cells (wRow w) 0)).new (.cells (plRow st.next) 1)) st.next (st.next+1) w:=⟨SS.new_get (st:=(st.ro st.next).new (.cells (wRow w) 0)),by simp,a0.ext x2⟩
 obtain ⟨s',x',l⟩:=zqq w hw st.next (st.next+1) _ ((hg.ro (n:=st.next)).ext (x1.trans x2)) hp 12 0 _ (by omega) (.refl _)
 have hnx:=x'.next
 simp at hnx
 have hlen:(lenV (.slice (some ⟨st.next+1,0,none⟩) 12 12)).bind (asI .i64)=some 12:=rfl
 have l':zc4 2 [.slice (some ⟨st.next+1,0,none⟩) 12 12,.int .i64 12,.int .i64 0] (((st.ro st.next).new (.cells (wRow w) 0)).new (.cells (plRow st.next) 1))=some (if zcE w=true then (0,[],s') else (1,[.bool false],s')):=by
  have hg':zcE w=(List.range' 0 12).all fun k=>fitsT (w.getD k 0) (zaH k):=by unfold zcE;rw [List.range_eq_range']
  rw [hg']
  exact l
 refine ⟨s'.next,by omega,zmM _ st ?_⟩
 have b0:Nat.beq 0 0=true:=rfl
 have b1:Nat.beq 1 0=false:=rfl
 cases hgd:zcE w with
 | true=>
   rw [hgd,if_pos rfl] at l'
   simp only [zh0,hc,SS.ro_next,c2,zob,SS.new_next,hlen,l',b0,zct]
 | false=>
   rw [hgd,if_neg (by decide)] at l'
   simp only [zh0,hc,SS.ro_next,c2,zob,SS.new_next,hlen,l',b1,zcf,zgz,zam]
def zdX:List Nat:=zbD.map (·.2)
def zgA:List Nat→List Int→Int
 | n::ns,p::ps=>p+2^n*zgA ns ps
 | _,_=>0
def zfG (w:Wd):Int:=zgA zdX w
theorem orU64 {a c s:Nat} (ha:a<2^s) (hc:a+c*2^s<2^64):orI .u64 (a:Int) ((c*2^s:Nat):Int)=((a+c*2^s:Nat):Int):=by
 have h1:a||| c*2^s=a+c*2^s:=by
  have:=Nat.two_pow_add_eq_or_of_lt ha c
  rw [Nat.or_comm,Nat.mul_comm,← this,Nat.add_comm]
 unfold orI
 have e:((BitVec.ofInt 64 (a:Int)||| BitVec.ofInt 64 ((c*2^s:Nat):Int)).toNat:Nat)=a+c*2^s:=by
  rw [BitVec.toNat_or,BitVec.ofInt_natCast,BitVec.ofInt_natCast,BitVec.toNat_ofNat,BitVec.toNat_ofNat,Nat.mod_eq_of_lt (by omega),Nat.mod_eq_of_lt (by omega),h1]
 show IntKind.wrap .u64 (((BitVec.ofInt 64 (a:Int)||| BitVec.ofInt 64 ((c*2^s:Nat):Int)).toNat:Nat):Int)=_
 rw [e]
 exact zea (by omega) (by omega)
theorem shl64 {c s:Nat} (hs:s<64) (hc:c*2^s<2^64):(aI .shl .u64 (c:Int) (s:Int)).bind (asI .u64)=some ((c*2^s:Nat):Int):=by
 have hb:¬ ((s:Int)<0):=by omega
 have e:min ((s:Int)).toNat (IntKind.bits .u64)=s:=by
  show min ((s:Int)).toNat 64=s
  rw [Int.toNat_natCast];omega
 have e2:zix .u64 (c:Int) (s:Int)=((c*2^s:Nat):Int):=by
  unfold zix
  rw [e]
  have:(c:Int)*2^s=((c*2^s:Nat):Int):=by simp
  rw [this]
  exact zea (by omega) (by omega)
 simp only [aI,zdf hb,zcf,zob,zaa,e2]
def zbS (k:Nat):Nat:=(zdX.take k).sum
theorem zqr {k:Nat} (h:k<12):zbS (k+1)=zbS k+zaH k:=by
 have:∀ k,k<12→zbS (k+1)=zbS k+zaH k:=by decide+kernel
 exact this k h
theorem zsO {k:Nat} (h:k<12):zbS k+zaH k≤64∧0<zaH k:=by
 have:∀ k,k<12→zbS k+zaH k≤64∧0<zaH k:=by decide+kernel
 exact this k h
theorem zpl {k:Nat} (h:k<12):zdX.drop k=zaH k::zdX.drop (k+1):=by
 have:∀ k,k<12→zdX.drop k=zaH k::zdX.drop (k+1):=by decide+kernel
 exact this k h
theorem getD_drop {w:Wd} {k:Nat} (h:k<w.length):w.drop k=w.getD k 0::w.drop (k+1):=by
 rw [List.drop_eq_getElem_cons h,List.getD_eq_getElem?_getD,zge h]
 rfl
theorem zrN {w:Wd} (h:zcE w=true) {k:Nat} (hk:k<12):∃ p:Nat,w.getD k 0=(p:Int)∧p<2^zaH k:=by
 have:=List.all_eq_true.1 h k (List.mem_range.2 hk)
 unfold fitsT at this
 obtain ⟨h1,h2⟩:=of_decide_eq_true this
 obtain ⟨p,hp⟩:=Int.eq_ofNat_of_zero_le h1
 refine ⟨p,hp,?_⟩
 rw [hp] at h2
 have:((p:Int))<((2^zaH k:Nat):Int):=by simpa using h2
 omega
theorem zqs [Sym] (w:Wd) (hw:w.length=12) (hgd:zcE w=true) (b j:Nat) (st0:SS) (hg:Gd st0) (hp:Pls st0 b j w):∀ (m k x:Nat),12=m+k→x<2^zbS k→
  zc5 5 [.int .u64 x,.int .i64 (zbS k),.slice (some ⟨j,0,none⟩) 12 12,.int .i64 12,.int .i64 k] st0=some (0,[.int .u64 ((x:Int)+2^zbS k*zgA (zdX.drop k) (w.drop k))],st0):=by
 intro m
 induction m with
 | zero=>
   intro k x hk hx
   have:k=12:=by omega
   subst this
   refine zga _ _ _ _ _ st0 ?_
   have e:zgA (zdX.drop 12) (w.drop 12)=0:=rfl
   rw [e,Int.mul_zero,Int.add_zero]
   rfl
 | succ m ih=>
   intro k x hk hx
   have hkl:k<12:=by omega
   have h1:(k:Int)<12:=by omega
   have hnl:zar (ptr b k)=some (ptr b k):=rfl
   obtain ⟨p,hp1,hp2⟩:=zrN hgd hkl
   have hs:=zsO hkl
   have hss:=zqr hkl
   have hw1:=zbf (i:=k) (by omega)
   have e1:=hp.ptr hkl
   have e2:=hp.part hw hkl
   rw [hp1] at e2
   have e3:=zkY hg hkl
   have e4:=zmS hkl
   have hpow:2^zaH k≤2^11:=Nat.pow_le_pow_right (by omega) (ziT k)
   have hw2:IntKind.wrap .u64 (p:Int)=(p:Int):=zea (by omega) (by omega)
   have hpm:p*2^zbS k+2^zbS k≤2^(zbS k+zaH k):=by
    rw [Nat.pow_add,Nat.mul_comm (2^zbS k)]
    have:(p+1)*2^zbS k≤2^zaH k*2^zbS k:=Nat.mul_le_mul_right _ hp2
    rw [Nat.add_mul] at this
    omega
   have h64:2^(zbS k+zaH k)≤2^64:=Nat.pow_le_pow_right (by omega) hs.1
   have e5:=shl64 (c:=p) (s:=zbS k) (by omega) (by omega)
   have e6:=orU64 (a:=x) (c:=p) (s:=zbS k) hx (by omega)
   have hw3:IntKind.wrap .i64 ((zbS k:Int)+(zaH k:Int))=((zbS (k+1):Nat):Int):=by rw [wrap64 (by omega) (by omega),hss];omega
   have:=ih (k+1) (x+p*2^zbS k) (by omega) (by rw [hss];omega)
   have e7:(((x+p*2^zbS k:Nat):Int)+2^zbS (k+1)*zgA (zdX.drop (k+1)) (w.drop (k+1)))=(x:Int)+2^zbS k*zgA (zdX.drop k) (w.drop k):=by
    rw [zpl hkl,getD_drop (w:=w) (k:=k) (by omega),hp1]
    show _=(x:Int)+2^zbS k*((p:Int)+2^zaH k*zgA (zdX.drop (k+1)) (w.drop (k+1)))
    rw [hss,Int.pow_add,Int.mul_add,Int.mul_assoc]
    simp only [Int.natCast_add,Int.natCast_mul,Int.natCast_pow]
    rw [Int.mul_comm (p:Int)]
    simp [Int.add_assoc]
   rw [e7] at this
   refine zga _ _ _ _ _ st0 ?_
   simp only [zih,zdt h1,zct,plS hkl,zob,e1,hnl,zaf,e2,zaa,hw2,e5,e6,e4,e3,hw3,hw1]
   exact this
theorem zsP [Sym] (w:Wd) (hw:w.length=12) (st:SS) (hg:Gd st):∃ n,st.next≤n∧cc 73 [wV w] st=some (if zcE w=true then .tuple #[.int .u64 (zfG w),.int .i64 0] else .tuple #[.int .u64 0,.int .i64 1],st.adv n):=by
 have hc:(wV w).cells.toList=wRow w:=zaC _
 have a0:At ((st.ro st.next).new (.cells (wRow w) 0)) st.next (wRow w):=At.new (st:=st.ro st.next) (zlr _) _
 have x1:Ext (st.ro st.next) ((st.ro st.next).new (.cells (wRow w) 0)):=(Ext.refl _).new _
 have l0:((st.ro st.next).new (.cells (wRow w) 0)).ldN st.next 0 12=some (wV w):=a0.ldN (by rw [za8,hw])
 obtain ⟨n3,hn3,c3⟩:=zsN w hw _ ((hg.ro (n:=st.next)).ext x1)
 have x3:Ext ((st.ro st.next).new (.cells (wRow w) 0)) (((st.ro st.next).new (.cells (wRow w) 0)).adv n3):=(Ext.refl _).adv hn3
 simp at hn3
 have b0:Nat.beq 0 0=true:=rfl
 cases hgd:zcE w with
 | false=>
   rw [hgd] at c3
   refine ⟨n3,by omega,zif _ st ?_⟩
   simp only [zh1,hc,SS.ro_next,l0,c3,zob,zam,znf,zct]
   rfl
 | true=>
   rw [hgd] at c3
   have c5:=ziS st.next (((st.ro st.next).new (.cells (wRow w) 0)).adv n3)
   have x5:Ext (((st.ro st.next).new (.cells (wRow w) 0)).adv n3) ((((st.ro st.next).new (.cells (wRow w) 0)).adv n3).new (.cells (plRow st.next) 1)):=(Ext.refl _).new _
   have hp:Pls ((((st.ro st.next).new (.cells (wRow w) 0)).adv n3).new (.cells (plRow st.next) 1)) st.next n3 w:=⟨SS.new_get (st:=((st.ro st.next).new (.cells (wRow w) 0)).adv n3),by simp,(a0.ext x3).ext x5⟩
   have l:=zqs w hw hgd st.next n3 _ ((hg.ro (n:=st.next)).ext (x1.trans (x3.trans x5))) hp 12 0 0 (by omega) (by decide)
   have e:((0:Nat):Int)+2^zbS 0*zgA (zdX.drop 0) (w.drop 0)=zfG w:=by
    rw [List.drop_zero,List.drop_zero]
    show (0:Int)+2^0*zfG w=zfG w
    omega
   rw [e] at l
   have l':zc5 5 [.int .u64 0,.int .i64 0,.slice (some ⟨n3,0,none⟩) 12 12,.int .i64 12,.int .i64 0] ((((st.ro st.next).new (.cells (wRow w) 0)).adv n3).new (.cells (plRow st.next) 1))=_:=l
   have hlen:(lenV (.slice (some ⟨n3,0,none⟩) 12 12)).bind (asI .i64)=some 12:=rfl
   refine ⟨n3+1,by omega,zif _ st ?_⟩
   have hnx:(((st.ro st.next).new (.cells (wRow w) 0)).adv n3).next=n3:=rfl
   simp only [zh1,hc,SS.ro_next,l0,c3,zob,zam,znt,zcf,c5,hnx,hlen,l',zgz,zaa]
   rfl
end Go.Proofs.YtifploedaacedaaGreatDoorE
namespace Go.Proofs.YtifploedaacedaaGreatDoorE
open Go Go.E Go.Proofs
structure Val where
 nm:List UInt8
 x:Int
 col:Nat
structure Pr where
 fd:List UInt8
 col:Nat
 v:Val
structure PLine where
 ln:Nat
 lab:List UInt8
 dir:List UInt8
 args:List Val
 prs:List Pr
def zaB (t:Tok) (s:List UInt8):Bool:=decide (t.kd=3)&&decide (t.tx=s)
def zdy:List Tok→Except Nat (Val×Nat)
 | []=>.error 0
 | t::r=>if t.kd=2 then .ok (⟨[],t.nm,t.col⟩,1) else if t.kd=1 then (match r with
   | []=>.error 0
   | s::u=>if zaB s [43]=true then (match u with
     | n::_=>if n.kd=2 then .ok (⟨t.tx,n.nm,t.col⟩,3) else .error 2
     | []=>.error 2)
     else if zaB s [45]=true then (match u with
      | n::_=>if n.kd=2 then .ok (⟨t.tx, -n.nm,t.col⟩,3) else .error 2
      | []=>.error 2)
     else .ok (⟨t.tx,0,t.col⟩,1)) else .error 0
def zcY:Nat→List Tok→Except Nat (List Val)
 | 0,_=>.ok []
 | _+1,[]=>.ok []
 | k+1,t::r=>if t.kd=0 then .ok [] else match zdy (t::r) with
   | .error o=>.error o
   | .ok (v,n)=>match zcY k ((t::r).drop n) with
     | .error o=>.error (n+o)
     | .ok vs=>.ok (v::vs)
def pairT (seen:List (List UInt8)):List Tok→Except Nat (Pr×Nat)
 | []=>.error 0
 | t::r=>if t.kd=1∧t.tx∉seen then (match r with
   | []=>.error 1
   | e::u=>if zaB e [61]=true then (match zdy u with
     | .error o=>.error (2+o)
     | .ok (v,n)=>.ok (⟨t.tx,t.col,v⟩,2+n)) else .error 1)
   else .error 0
def za9:Nat→List (List UInt8)→List Tok→Except Nat (List Pr)
 | 0,_,_=>.ok []
 | _+1,_,[]=>.ok []
 | k+1,seen,t::r=>if t.kd=0 then .ok [] else match pairT seen (t::r) with
   | .error o=>.error o
   | .ok (p,n)=>match za9 k (seen++[p.fd]) ((t::r).drop n) with
     | .error o=>.error (n+o)
     | .ok ps=>.ok (p::ps)
def zcF (lab:List UInt8):List Tok→Except Nat PLine
 | []=>.error 0
 | t::r=>if zaB t [46]=true then (match r with
   | []=>.error 1
   | d::u=>if d.kd=1 then (match zcY u.length u with
     | .error o=>.error (2+o)
     | .ok vs=>.ok ⟨0,lab,d.tx,vs,[]⟩) else .error 1)
   else match za9 (t::r).length [] (t::r) with
    | .error o=>.error o
    | .ok ps=>.ok ⟨0,lab,[],[],ps⟩
def readT:List Tok→Except Nat PLine
 | t::s::r=>if t.kd=1∧zaB s [58]=true then (match zcF t.tx r with
   | .error o=>.error (2+o)
   | .ok x=>.ok x) else zcF [] (t::s::r)
 | l=>zcF [] l
def zpm (l:List Tok) (o:Nat):Nat:=((l[o]?).map (·.col)).getD 0
def zcJ:Nat→List (List Tok)→Except (Nat×Nat) (List PLine)
 | _,[]=>.ok []
 | i,ts::r=>match readT ts with
   | .error o=>.error (i+1,zpm ts o)
   | .ok x=>match zcJ (i+1) r with
     | .error e=>.error e
     | .ok xs=>.ok (if 1<ts.length then { x with ln:=i+1 }::xs else xs)
def zcv:Nat→List (List UInt8)→Except (Nat×Nat) (List (List Tok))
 | _,[]=>.ok []
 | i,p::r=>match zcq p with
   | .error c=>.error (i+1,c)
   | .ok ts=>match zcv (i+1) r with
     | .error e=>.error e
     | .ok tss=>.ok (ts::tss)
def zfH (l:List UInt8):Except (Nat×Nat) (List PLine):=match zcv 0 (pieces 10 l) with
 | .error e=>.error e
 | .ok tss=>zcJ 0 tss
def flat:Nat→List (List Tok)→List (Nat×Tok)
 | _,[]=>[]
 | i,ts::r=>ts.map (fun t=>(i+1,t))++flat (i+1) r
theorem zpn (ps:List (List UInt8)) (i:Nat):ze7 i ps=match zcv i ps with
  | .error e=>.error e
  | .ok tss=>.ok (flat i tss):=by
 induction ps generalizing i with
 | nil=>rfl
 | cons p r ih=>
   unfold ze7 zcv
   cases hx:zcq p with
   | error c=>rfl
   | ok ts=>
     simp only
     rw [ih (i+1)]
     cases hy:zcv (i+1) r with
     | error e=>rfl
     | ok tss=>rfl
def Lin:List Tok→Prop
 | []=>False
 | t::r=>(t.kd=0∧r=[])∨(t.kd≠0∧Lin r)
theorem Lin.tail {t:Tok} {r:List Tok} (h:Lin (t::r)) (hk:t.kd≠0):Lin r:=h.elim (fun x=>absurd x.1 hk) (·.2)
theorem Lin.last {t:Tok} {r:List Tok} (h:Lin (t::r)) (hk:t.kd=0):r=[]:=h.elim (·.2) fun x=>absurd hk x.1
theorem Lin.ne {r:List Tok} (h:Lin r):∃ t u,r=t::u:=by
 cases r with
 | nil=>exact h.elim
 | cons t u=>exact ⟨t,u,rfl⟩
structure TokOk (t:Tok):Prop where
 kd:t.kd≤3
 tx:t.kd=1→t.tx≠[]
 nm0:0≤t.nm
 nm1:t.nm≤2147483647
theorem zpo {l:List UInt8} {m:Nat} (h:numO (zcX l)=some m):m≤2147483647:=by
 have key:∀ B q,numO (zaT B q)=some m→m≤2147483647:=by
  intro B q h
  have hr:=zfa (B:=B) (l:=q)
  cases hp:zaT B q with
  | none=>rw [hp] at h;cases h
  | some x=>cases x with
    | none=>rw [hp] at h;cases h
    | some k=>
      rw [hp] at h hr
      have:k=m:=by injection h
      subst this
      simp only [puV] at hr
      omega
 unfold zcX at h
 split at h
 ·exact key _ _ h
 ·exact key _ _ h
theorem zrO {l:List UInt8} {kd n:Nat} {x:Int} {c:Nat} (h:stepT l=.tok kd n x):TokOk ⟨kd,l.take n,x,c⟩∧kd≠0:=by
 obtain ⟨h1,h2,h3⟩:=zqo h
 have hne:l.take n≠[]:=by
  intro e
  have:=congrArg List.length e
  rw [List.length_take] at this
  simp at this
  rcases this with rfl | rfl
  ·omega
  ·simp at h2;omega
 have hx:0≤x∧x≤2147483647:=by
  cases l with
  | nil=>cases h
  | cons c r=>
    rw [zkT] at h
    split at h
    ·cases h
    ·split at h
     ·cases h
     ·split at h
      ·split at h
       ·cases h
       ·cases h;omega
      ·split at h
       ·split at h
        ·rename_i m hm
         cases h
         have:=zpo hm
         omega
        ·cases h
       ·split at h
        ·cases h;omega
        ·cases h
 exact ⟨⟨by show kd≤3;omega,fun _=>hne,hx.1,hx.2⟩,by omega⟩
theorem Lin.snoc {ts:List Tok} {e:Tok} (h:∀ t∈ts,t.kd≠0) (he:e.kd=0):Lin (ts++[e]):=by
 induction ts with
 | nil=>exact .inl ⟨he,rfl⟩
 | cons t r ih=>exact .inr ⟨h t (List.mem_cons_self ..),ih fun u hu=>h u (List.mem_cons_of_mem _ hu)⟩
theorem zsQ (k col:Nat) (l:List UInt8) (ts:List Tok) (h:zdd k col l=.ok ts):∀ t∈ts,TokOk t∧t.kd≠0:=by
 induction k generalizing col l ts with
 | zero=>cases h;intro t ht;cases ht
 | succ k ih=>
   unfold zdd at h
   split at h
   ·cases h;intro t ht;cases ht
   ·exact ih _ _ _ h
   ·rename_i kd n x hs
    cases hx:zdd k (col+n) (l.drop n) with
    | error e=>rw [hx] at h;cases h
    | ok us=>
      rw [hx] at h;cases h
      intro t ht
      rcases List.mem_cons.1 ht with rfl | ht
      ·exact zrO hs
      ·exact ih _ _ _ hx t ht
   ·cases h
theorem znx {p:List UInt8} {ts:List Tok} (h:zcq p=.ok ts):Lin ts∧∀ t∈ts,TokOk t:=by
 unfold zcq at h
 split at h
 ·rename_i us hu
  cases h
  have h1:=zsQ _ _ _ _ hu
  refine ⟨Lin.snoc (fun t ht=>(h1 t ht).2) rfl,fun t ht=>?_⟩
  rcases List.mem_append.1 ht with ht | ht
  ·exact (h1 t ht).1
  ·have:t=zeS p:=by simpa using ht
   subst this
   exact ⟨by simp [zeS],fun h=>by simp [zeS] at h,by simp [zeS],by simp [zeS]⟩
 ·cases h
theorem zrP (ps:List (List UInt8)) (i:Nat) (tss:List (List Tok)) (h:zcv i ps=.ok tss):∀ ts∈tss,Lin ts∧∀ t∈ts,TokOk t:=by
 induction ps generalizing i tss with
 | nil=>cases h;intro ts hts;cases hts
 | cons p r ih=>
   unfold zcv at h
   cases hx:zcq p with
   | error c=>rw [hx] at h;cases h
   | ok ts=>
     rw [hx] at h
     cases hy:zcv (i+1) r with
     | error e=>rw [hy] at h;cases h
     | ok us=>
       rw [hy] at h;cases h
       intro ts' ht
       rcases List.mem_cons.1 ht with rfl | ht
       ·exact znx hx
       ·exact ih _ _ hy ts' ht
theorem zcw {t:Tok} {s:List UInt8} (h:zaB t s=true):t.kd=3:=by
 simp [zaB] at h;exact h.1
theorem zfI (t:Tok) (r:List Tok):zdy (t::r)=(if t.kd=2 then .ok (⟨[],t.nm,t.col⟩,1) else if t.kd=1 then (match r with
   | []=>.error 0
   | s::u=>if zaB s [43]=true then (match u with
     | n::_=>if n.kd=2 then .ok (⟨t.tx,n.nm,t.col⟩,3) else .error 2
     | []=>.error 2)
     else if zaB s [45]=true then (match u with
      | n::_=>if n.kd=2 then .ok (⟨t.tx, -n.nm,t.col⟩,3) else .error 2
      | []=>.error 2)
     else .ok (⟨t.tx,0,t.col⟩,1)) else .error 0):=rfl
theorem zh2 (seen:List (List UInt8)) (t:Tok) (r:List Tok):pairT seen (t::r)=(if t.kd=1∧t.tx∉seen then (match r with
   | []=>.error 1
   | e::u=>if zaB e [61]=true then (match zdy u with
     | .error o=>.error (2+o)
     | .ok (v,n)=>.ok (⟨t.tx,t.col,v⟩,2+n)) else .error 1)
  else .error 0):=rfl
theorem ziU {l:List Tok} (hl:Lin l):match zdy l with
  | .ok (_,n)=>Lin (l.drop n)∧0<n
  | .error o=>o<l.length:=by
 obtain ⟨t,r,rfl⟩:=hl.ne
 rw [zfI]
 by_cases h2:t.kd=2
 ·rw [if_pos h2]
  exact ⟨hl.tail (by omega),by omega⟩
 ·rw [if_neg h2]
  by_cases h1:t.kd=1
  ·rw [if_pos h1]
   have hr:=hl.tail (by omega)
   obtain ⟨s,u,rfl⟩:=hr.ne
   simp only
   by_cases hp:zaB s [43]=true
   ·rw [if_pos hp]
    have hu:=hr.tail (by have:=zcw hp;omega)
    obtain ⟨n,w,rfl⟩:=hu.ne
    simp only
    by_cases hn:n.kd=2
    ·rw [if_pos hn];exact ⟨hu.tail (by omega),by omega⟩
    ·rw [if_neg hn];simp
   ·rw [if_neg hp]
    by_cases hm:zaB s [45]=true
    ·rw [if_pos hm]
     have hu:=hr.tail (by have:=zcw hm;omega)
     obtain ⟨n,w,rfl⟩:=hu.ne
     simp only
     by_cases hn:n.kd=2
     ·rw [if_pos hn];exact ⟨hu.tail (by omega),by omega⟩
     ·rw [if_neg hn];simp
    ·rw [if_neg hm];exact ⟨hr,by omega⟩
  ·rw [if_neg h1];simp
theorem zmk {seen:List (List UInt8)} {l:List Tok} (hl:Lin l):match pairT seen l with
  | .ok (_,n)=>Lin (l.drop n)∧0<n
  | .error o=>o<l.length:=by
 obtain ⟨t,r,rfl⟩:=hl.ne
 rw [zh2]
 by_cases h1:t.kd=1∧t.tx∉seen
 ·rw [if_pos h1]
  have hr:=hl.tail (by omega)
  obtain ⟨e,u,rfl⟩:=hr.ne
  simp only
  by_cases he:zaB e [61]=true
  ·rw [if_pos he]
   have hu:=hr.tail (by have:=zcw he;omega)
   have h:=ziU hu
   cases hx:zdy u with
   | error o=>rw [hx] at h;simp only at h ⊢;simp;omega
   | ok y=>
     obtain ⟨v,n⟩:=y
     rw [hx] at h
     simp only at h ⊢
     rw [Nat.add_comm 2 n]
     exact ⟨h.1,by omega⟩
  ·rw [if_neg he];simp
 ·rw [if_neg h1];simp
theorem zqu (k:Nat) (l:List Tok) (hl:Lin l) (o:Nat) (h:zcY k l=.error o):o<l.length:=by
 induction k generalizing l o with
 | zero=>cases h
 | succ k ih=>
   obtain ⟨t,r,rfl⟩:=hl.ne
   unfold zcY at h
   split at h
   ·cases h
   ·have hx:=ziU hl
    cases hy:zdy (t::r) with
    | error o'=>rw [hy] at h hx;cases h;exact hx
    | ok y=>
      obtain ⟨v,n⟩:=y
      rw [hy] at h hx
      simp only at h hx
      cases hz:zcY k ((t::r).drop n) with
      | ok vs=>rw [hz] at h;cases h
      | error o'=>
        rw [hz] at h
        have:=ih _ hx.1 o' hz
        rw [List.length_drop] at this
        have h':n+o'=o:=by injection h
        omega
theorem zpp (k:Nat) (seen:List (List UInt8)) (l:List Tok) (hl:Lin l) (o:Nat) (h:za9 k seen l=.error o):o<l.length:=by
 induction k generalizing seen l o with
 | zero=>cases h
 | succ k ih=>
   obtain ⟨t,r,rfl⟩:=hl.ne
   unfold za9 at h
   split at h
   ·cases h
   ·have hx:=zmk (seen:=seen) hl
    cases hy:pairT seen (t::r) with
    | error o'=>rw [hy] at h hx;cases h;exact hx
    | ok y=>
      obtain ⟨v,n⟩:=y
      rw [hy] at h hx
      simp only at h hx
      cases hz:za9 k (seen++[v.fd]) ((t::r).drop n) with
      | ok vs=>rw [hz] at h;cases h
      | error o'=>
        rw [hz] at h
        have:=ih _ _ hx.1 o' hz
        rw [List.length_drop] at this
        have h':n+o'=o:=by injection h
        omega
theorem zdz (lab:List UInt8) (t:Tok) (r:List Tok):zcF lab (t::r)=if zaB t [46]=true then (match r with
   | []=>.error 1
   | d::u=>if d.kd=1 then (match zcY u.length u with
     | .error o=>.error (2+o)
     | .ok vs=>.ok ⟨0,lab,d.tx,vs,[]⟩) else .error 1)
  else match za9 (t::r).length [] (t::r) with
   | .error o=>.error o
   | .ok ps=>.ok ⟨0,lab,[],[],ps⟩:=rfl
theorem zgB (t s:Tok) (r:List Tok):readT (t::s::r)=if t.kd=1∧zaB s [58]=true then (match zcF t.tx r with
   | .error o=>.error (2+o)
   | .ok x=>.ok x) else zcF [] (t::s::r):=rfl
theorem ziV (lab:List UInt8) (l:List Tok) (hl:Lin l) (o:Nat) (h:zcF lab l=.error o):o<l.length:=by
 obtain ⟨t,r,rfl⟩:=hl.ne
 rw [zdz] at h
 by_cases hs:zaB t [46]=true
 ·rw [if_pos hs] at h
  have hr:=hl.tail (by have:=zcw hs;omega)
  obtain ⟨d,u,rfl⟩:=hr.ne
  simp only at h
  by_cases hd:d.kd=1
  ·rw [if_pos hd] at h
   have hu:=hr.tail (by omega)
   cases hx:zcY u.length u with
   | ok vs=>rw [hx] at h;cases h
   | error o'=>
     rw [hx] at h
     have:=zqu _ _ hu o' hx
     have h':2+o'=o:=by injection h
     simp;omega
  ·rw [if_neg hd] at h;cases h;simp
 ·rw [if_neg hs] at h
  cases hx:za9 (t::r).length [] (t::r) with
  | ok vs=>rw [hx] at h;cases h
  | error o'=>
    rw [hx] at h
    have:=zpp _ _ _ hl o' hx
    have h':o'=o:=by injection h
    omega
theorem zqv (l:List Tok) (hl:Lin l) (o:Nat) (h:readT l=.error o):o<l.length:=by
 obtain ⟨t,r,rfl⟩:=hl.ne
 cases r with
 | nil=>exact ziV [] _ hl o h
 | cons s r=>
   rw [zgB] at h
   split at h
   ·rename_i hc
    have hr:Lin r:=(hl.tail (by omega)).tail (by have:=zcw hc.2;omega)
    cases hx:zcF t.tx r with
    | ok x=>rw [hx] at h;cases h
    | error o'=>
      rw [hx] at h
      have:=ziV _ _ hr o' hx
      have h':2+o'=o:=by injection h
      simp;omega
   ·exact ziV [] _ hl o h
end Go.Proofs.YtifploedaacedaaGreatDoorE
namespace Go.Proofs.YtifploedaacedaaGreatDoorE
set_option maxRecDepth 20000
open Go Go.E Go.Proofs
noncomputable def zfp (cf:zak) (lf:zac) (p':Value) (st:SS):Option (Value×SS):=
 let a:SS:=(st.ro st.next).new (.cells [.int .i64 0,.string ⟨#[]⟩,.int .i64 0,.int .i64 0,.int .i64 0] 0)
 (zar p').bind fun b=>
 (addr? b).bind fun c=>
 (a.ld c.1 c.2).bind fun d=>
 (zar p').bind fun e=>
 (addr? e).bind fun f=>
 ((a.ld f.1 (f.2+1)).bind (asI .i64)).bind fun g=>
 (zas d g 5).bind fun h=>
 (a.ldN h.1 h.2 5).bind fun i=>
 (a.stV ((st.ro st.next).next) 0 5 i).bind fun j=>
 (j.rdN ((st.ro st.next).next) 0 5).bind fun k=>
 cond (flat3 k) (some (k,st.adv j.next)) none
noncomputable abbrev zh3:zac:=lS Tryz.prog Lk0 Tryz.f69 zaw
theorem zh4:Lk0.func 69=some (69,Tryz.f69):=by kernel_rfl
theorem zh5 [Sym] (p':Value) (st:SS) {r:Value×SS} (h:zfp cc zh3 p' st=some r):cc 69 [p'] st=some r:=
 zad (li:=zaw) zai zaq zh4 rfl (fun _=>rfl) (.trans (by kernel_rfl) h)
noncomputable def zdo (cf:zak) (lf:zac) (p':Value) (st:SS):Option (Value×SS):=
 let a:SS:=(st.ro st.next).new (.cells [.int .i64 0,.string ⟨#[]⟩,.int .i64 0,.int .i64 0,.int .i64 0] 0)
 (cf 69 [p'] a).bind fun b=>
 ((zcR Lk0 150 0 b.1).bind (asI .i64)).bind fun c=>
 cond (decide (c=0)) (
 (cf 69 [p'] b.2).bind fun d=>
 (d.2.stV ((st.ro st.next).next) 0 5 d.1).bind fun e=>
 (e.rdN ((st.ro st.next).next) 0 5).bind fun f=>
 cond (flat3 f) (some (f,st.adv e.next)) none) (
 (zar p').bind fun g=>
 (addr? g).bind fun h=>
 (b.2.ld h.1 h.2).bind fun i=>
 (zar p').bind fun j=>
 (addr? j).bind fun k=>
 ((b.2.ld k.1 (k.2+1)).bind (asI .i64)).bind fun l=>
 let m:Int:=IntKind.wrap .i64 (l+1)
 (zas i m 5).bind fun n=>
 (b.2.ldN n.1 n.2 5).bind fun o=>
 (b.2.stV ((st.ro st.next).next) 0 5 o).bind fun p=>
 (p.rdN ((st.ro st.next).next) 0 5).bind fun q=>
 cond (flat3 q) (some (q,st.adv p.next)) none)
noncomputable abbrev zhe:zac:=lS Tryz.prog Lk0 Tryz.f91 zaw
theorem zhf:Lk0.func 91=some (91,Tryz.f91):=by kernel_rfl
theorem zed [Sym] (p':Value) (st:SS) {r:Value×SS} (h:zdo cc zhe p' st=some r):cc 91 [p'] st=some r:=
 zad (li:=zaw) zai zaq zhf rfl (fun _=>rfl) (.trans (by kernel_rfl) h)
noncomputable def zch (cf:zak) (lf:zac) (p':Value) (sign':ByteArray) (st:SS):Option (Value×SS):=
 (cf 69 [p'] st).bind fun a=>
 let b:SS:=a.2.new (.cells [.int .i64 0,.string ⟨#[]⟩,.int .i64 0,.int .i64 0,.int .i64 0] 0)
 (b.stV a.2.next 0 5 a.1).bind fun c=>
 ((c.ld a.2.next 0).bind (asI .i64)).bind fun d=>
 cond (!(decide (d=3))) (
 some (.bool false,c)) (
 ((c.ld a.2.next 1).bind asS).bind fun e=>
 cond (!(eqT e sign')) (
 some (.bool false,c)) (
 (zar p').bind fun f=>
 (addr? f).bind fun g=>
 ((c.ld g.1 (g.2+1)).bind (asI .i64)).bind fun h=>
 let i:Int:=IntKind.wrap .i64 (h+1)
 (zar p').bind fun j=>
 (addr? j).bind fun k=>
 (c.st k.1 (k.2+1) [.int .i64 i]).bind fun l=>
 some (.bool true,l)))
noncomputable abbrev zgM:zac:=lS Tryz.prog Lk0 Tryz.f92 zaw
theorem zgN:Lk0.func 92=some (92,Tryz.f92):=by kernel_rfl
theorem zcB [Sym] (p':Value) (sign':ByteArray) (st:SS) {r:Value×SS} (h:zch cc zgM p' sign' st=some r):cc 92 [p',.string sign'] st=some r:=
 zad (li:=zaw) zai zaq zgN rfl (fun _=>rfl) (.trans (by kernel_rfl) h)
noncomputable def zdp (cf:zak) (lf:zac) (p':Value) (st:SS):Option (Value×SS):=
 (cf 69 [p'] st).bind fun a=>
 let b:SS:=a.2.new (.cells [.int .i64 0,.string ⟨#[]⟩,.int .i64 0,.int .i64 0,.int .i64 0] 0)
 (b.stV a.2.next 0 5 a.1).bind fun c=>
 ((c.ld a.2.next 0).bind (asI .i64)).bind fun d=>
 cond (!(decide (d=1))) (
 some (.tuple #[.string ⟨#[]⟩,.bool false],c)) (
 (zar p').bind fun e=>
 (addr? e).bind fun f=>
 ((c.ld f.1 (f.2+1)).bind (asI .i64)).bind fun g=>
 let h:Int:=IntKind.wrap .i64 (g+1)
 (zar p').bind fun i=>
 (addr? i).bind fun j=>
 (c.st j.1 (j.2+1) [.int .i64 h]).bind fun k=>
 ((k.ld a.2.next 1).bind asS).bind fun l=>
 some (.tuple #[.string l,.bool true],k))
noncomputable abbrev zhg:zac:=lS Tryz.prog Lk0 Tryz.f93 zaw
theorem zhh:Lk0.func 93=some (93,Tryz.f93):=by kernel_rfl
theorem zee [Sym] (p':Value) (st:SS) {r:Value×SS} (h:zdp cc zhg p' st=some r):cc 93 [p'] st=some r:=
 zad (li:=zaw) zai zaq zhh rfl (fun _=>rfl) (.trans (by kernel_rfl) h)
noncomputable def zcZ (cf:zak) (lf:zac) (p':Value) (st:SS):Option (Value×SS):=
 (cf 69 [p'] st).bind fun a=>
 let b:SS:=a.2.new (.cells [.int .i64 0,.string ⟨#[]⟩,.int .i64 0,.int .i64 0,.int .i64 0] 0)
 (b.stV a.2.next 0 5 a.1).bind fun c=>
 ((c.ld a.2.next 0).bind (asI .i64)).bind fun d=>
 cond (!(decide (d=2))) (
 some (.tuple #[.int .i64 0,.bool false],c)) (
 (zar p').bind fun e=>
 (addr? e).bind fun f=>
 ((c.ld f.1 (f.2+1)).bind (asI .i64)).bind fun g=>
 let h:Int:=IntKind.wrap .i64 (g+1)
 (zar p').bind fun i=>
 (addr? i).bind fun j=>
 (c.st j.1 (j.2+1) [.int .i64 h]).bind fun k=>
 ((k.ld a.2.next 2).bind (asI .i64)).bind fun l=>
 some (.tuple #[.int .i64 l,.bool true],k))
noncomputable abbrev zgk:zac:=lS Tryz.prog Lk0 Tryz.f111 zaw
theorem zgl:Lk0.func 111=some (111,Tryz.f111):=by kernel_rfl
theorem zdB [Sym] (p':Value) (st:SS) {r:Value×SS} (h:zcZ cc zgk p' st=some r):cc 111 [p'] st=some r:=
 zad (li:=zaw) zai zaq zgl rfl (fun _=>rfl) (.trans (by kernel_rfl) h)
noncomputable def zaV (cf:zak) (lf:zac) (p':Value) (st:SS):Option (Value×SS):=
 let a:SS:=st.new (.cells [.string ⟨#[]⟩,.int .i64 0,.int .i64 0] 0)
 (cf 69 [p'] a).bind fun b=>
 ((zcR Lk0 150 4 b.1).bind (asI .i64)).bind fun c=>
 let d:SS:=b.2.new (.cells [.string ⟨#[]⟩,.int .i64 0,.int .i64 0] 0)
 (d.st b.2.next 0 [.string ⟨#[]⟩,.int .i64 0,.int .i64 c]).bind fun e=>
 (cf 111 [p'] e).bind fun f=>
 ((zal f.1 0).bind (asI .i64)).bind fun g=>
 ((zal f.1 1).bind asB).bind fun h=>
 (f.2.st b.2.next 1 [.int .i64 g]).bind fun i=>
 cond h (
 (i.ldN b.2.next 0 3).bind fun j=>
 (i.stV st.next 0 3 j).bind fun k=>
 (k.rdN st.next 0 3).bind fun l=>
 some (.tuple #[l,.bool true],k)) (
 (cf 93 [p'] i).bind fun m=>
 ((zal m.1 0).bind asS).bind fun n=>
 ((zal m.1 1).bind asB).bind fun o=>
 (m.2.st b.2.next 0 [.string n]).bind fun p=>
 cond (!o) (
 (p.ldN b.2.next 0 3).bind fun q=>
 (p.stV st.next 0 3 q).bind fun r=>
 (r.rdN st.next 0 3).bind fun s=>
 some (.tuple #[s,.bool false],r)) (
 (cf 92 [p',.string ⟨#[43]⟩] p).bind fun t=>
 ((some t.1).bind asB).bind fun u=>
 cond u (
 (cf 111 [p'] t.2).bind fun v=>
 ((zal v.1 0).bind (asI .i64)).bind fun w=>
 ((zal v.1 1).bind asB).bind fun x=>
 (v.2.st b.2.next 1 [.int .i64 w]).bind fun y=>
 (y.ldN b.2.next 0 3).bind fun z=>
 (y.stV st.next 0 3 z).bind fun A=>
 (A.rdN st.next 0 3).bind fun B=>
 some (.tuple #[B,.bool x],A)) (
 (cf 92 [p',.string ⟨#[45]⟩] t.2).bind fun C=>
 ((some C.1).bind asB).bind fun D=>
 cond D (
 (cf 111 [p'] C.2).bind fun E=>
 ((zal E.1 0).bind (asI .i64)).bind fun F=>
 ((zal E.1 1).bind asB).bind fun G=>
 (E.2.st b.2.next 1 [.int .i64 F]).bind fun H=>
 ((H.ld b.2.next 1).bind (asI .i64)).bind fun I=>
 let J:Int:=IntKind.wrap .i64 (0-I)
 (H.st b.2.next 1 [.int .i64 J]).bind fun K=>
 (K.ldN b.2.next 0 3).bind fun L=>
 (K.stV st.next 0 3 L).bind fun M=>
 (M.rdN st.next 0 3).bind fun N=>
 some (.tuple #[N,.bool G],M)) (
 (C.2.ldN b.2.next 0 3).bind fun O=>
 (C.2.stV st.next 0 3 O).bind fun P=>
 (P.rdN st.next 0 3).bind fun Q=>
 some (.tuple #[Q,.bool o],P)))))
noncomputable abbrev zgO:zac:=lS Tryz.prog Lk0 Tryz.f94 zaw
theorem zgP:Lk0.func 94=some (94,Tryz.f94):=by kernel_rfl
theorem zaU [Sym] (p':Value) (st:SS) {r:Value×SS} (h:zaV cc zgO p' st=some r):cc 94 [p'] st=some r:=
 zad (li:=zaw) zai zaq zgP rfl (fun _=>rfl) (.trans (by kernel_rfl) h)
noncomputable def zbs (cf:zak) (lf:zac) (p':Value) (l':Value) (st:SS):Option (Value×SS):=
 (cf 69 [p'] st).bind fun a=>
 ((zcR Lk0 150 4 a.1).bind (asI .i64)).bind fun b=>
 let c:SS:=a.2.new (.cells [.string ⟨#[]⟩,.int .i64 0,.string ⟨#[]⟩,.int .i64 0,.int .i64 0] 0)
 (c.st a.2.next 0 [.string ⟨#[]⟩,.int .i64 b,.string ⟨#[]⟩,.int .i64 0,.int .i64 0]).bind fun d=>
 (cf 69 [p'] d).bind fun e=>
 ((zcR Lk0 150 1 e.1).bind asS).bind fun f=>
 let g:SS:=e.2.new (.cells [.string ⟨#[]⟩] 0)
 (g.st e.2.next 0 [.string f]).bind fun h=>
 (cf 69 [p'] h).bind fun i=>
 ((zcR Lk0 150 0 i.1).bind (asI .i64)).bind fun j=>
 cond (!(decide (j=1))) (
 some (.bool false,i.2)) (
 (zar l').bind fun k=>
 (addr? k).bind fun l=>
 (i.2.ld l.1 (l.2+4)).bind fun m=>
 (cf 112 [m,.func (.func 113) #[] #[ptr e.2.next 0]] i.2).bind fun n=>
 ((some n.1).bind asB).bind fun o=>
 cond o (
 some (.bool false,n.2)) (
 ((n.2.ld e.2.next 0).bind asS).bind fun p=>
 (n.2.st a.2.next 0 [.string p]).bind fun q=>
 (zar p').bind fun r=>
 (addr? r).bind fun s=>
 ((q.ld s.1 (s.2+1)).bind (asI .i64)).bind fun t=>
 let u:Int:=IntKind.wrap .i64 (t+1)
 (zar p').bind fun v=>
 (addr? v).bind fun w=>
 (q.st w.1 (w.2+1) [.int .i64 u]).bind fun x=>
 (cf 92 [p',.string ⟨#[61]⟩] x).bind fun y=>
 ((some y.1).bind asB).bind fun z=>
 cond (!z) (
 some (.bool false,y.2)) (
 (cf 94 [p'] y.2).bind fun A=>
 (zal A.1 0).bind fun B=>
 ((zal A.1 1).bind asB).bind fun C=>
 (A.2.stV a.2.next 2 3 B).bind fun D=>
 cond (!C) (
 some (.bool false,D)) (
 (zar l').bind fun E=>
 (addr? E).bind fun F=>
 (D.ld F.1 (F.2+4)).bind fun G=>
 (D.ldN a.2.next 0 5).bind fun H=>
 (zaP H 5).bind fun I=>
 let J:SS:=D.new (.cells (I++([])) 5)
 (J.app 5 56 G (.slice (some ⟨D.next,0,none⟩) 1 1)).bind fun K=>
 (zar l').bind fun L=>
 (addr? L).bind fun M=>
 (K.2.stV M.1 (M.2+4) 1 K.1).bind fun N=>
 some (.bool true,N)))))
noncomputable abbrev zhi:zac:=lS Tryz.prog Lk0 Tryz.f95 zaw
theorem zhj:Lk0.func 95=some (95,Tryz.f95):=by kernel_rfl
theorem zbt [Sym] (p':Value) (l':Value) (st:SS) {r:Value×SS} (h:zbs cc zhi p' l' st=some r):cc 95 [p',l'] st=some r:=
 zad (li:=zaw) zai zaq zhj rfl (fun _=>rfl) (.trans (by kernel_rfl) h)
def zdC:LoopI:=⟨[(0,.any),(2,.any),(4,.any)],[(.exit 2,[(2,.any),(4,.any)]),(.ret,[(2,.any),(3,.bool)])]⟩
def zdD:LoopI:=⟨[(0,.any),(2,.any),(4,.any)],[(.exit 0,[(2,.any),(4,.any)]),(.ret,[(2,.any),(3,.bool)])]⟩
def zef (n:Nat):Option LoopI:=cond (Nat.beq n 11) (some zdD) (cond (Nat.beq n 17) (some zdC) (none))
noncomputable def zbT (cf:zak) (lf:zac) (p':Value) (st:SS):Option (Value×SS):=
 let a:SS:=st.new (.cells [.int .i64 0,.string ⟨#[]⟩,.string ⟨#[]⟩,.slice none 0 0,.slice none 0 0] 0)
 (cf 69 [p'] a).bind fun b=>
 ((zcR Lk0 150 3 b.1).bind (asI .i64)).bind fun c=>
 let d:SS:=b.2.new (.cells [.int .i64 0,.string ⟨#[]⟩,.string ⟨#[]⟩,.slice none 0 0,.slice none 0 0] 0)
 (d.st b.2.next 0 [.int .i64 c,.string ⟨#[]⟩,.string ⟨#[]⟩,.slice none 0 0,.slice none 0 0]).bind fun e=>
 (cf 91 [p'] e).bind fun f=>
 let g:SS:=f.2.new (.cells [.int .i64 0,.string ⟨#[]⟩,.int .i64 0,.int .i64 0,.int .i64 0] 0)
 (g.stV f.2.next 0 5 f.1).bind fun h=>
 (cf 69 [p'] h).bind fun i=>
 ((zcR Lk0 150 0 i.1).bind (asI .i64)).bind fun j=>
 cond (decide (j=1)) (
 ((i.2.ld f.2.next 0).bind (asI .i64)).bind fun k=>
 cond (decide (k=3)) (
 ((i.2.ld f.2.next 1).bind asS).bind fun l=>
 cond (eqT l ⟨#[58]⟩) (
 (cf 69 [p'] i.2).bind fun m=>
 ((zcR Lk0 150 1 m.1).bind asS).bind fun n=>
 (m.2.st b.2.next 1 [.string n]).bind fun o=>
 (zar p').bind fun p=>
 (addr? p).bind fun q=>
 ((o.ld q.1 (q.2+1)).bind (asI .i64)).bind fun r=>
 let s:Int:=IntKind.wrap .i64 (r+2)
 (zar p').bind fun t=>
 (addr? t).bind fun u=>
 (o.st u.1 (u.2+1) [.int .i64 s]).bind fun v=>
 (cf 92 [p',.string ⟨#[46]⟩] v).bind fun w=>
 ((some w.1).bind asB).bind fun x=>
 cond x (
 (cf 93 [p'] w.2).bind fun y=>
 ((zal y.1 0).bind asS).bind fun z=>
 ((zal y.1 1).bind asB).bind fun A=>
 (y.2.st b.2.next 2 [.string z]).bind fun B=>
 cond (!A) (
 (B.ldN b.2.next 0 5).bind fun C=>
 (B.stV st.next 0 5 C).bind fun D=>
 (D.rdN st.next 0 5).bind fun E=>
 some (.tuple #[E,.bool false],D)) (
 (lf 11 [p',ptr st.next 0,ptr b.2.next 0] B).bind fun F=>
 cond (Nat.beq F.1 0) (
 (F.2.1[0]?).bind fun G=>
 (F.2.1[1]?).bind fun H=>
 (addr? H).bind fun I=>
 (F.2.2.ldN I.1 I.2 5).bind fun J=>
 (addr? G).bind fun K=>
 (F.2.2.stV K.1 K.2 5 J).bind fun L=>
 (addr? G).bind fun M=>
 (L.rdN M.1 M.2 5).bind fun N=>
 some (.tuple #[N,.bool true],L)) (
 (F.2.1[0]?).bind fun O=>
 ((F.2.1[1]?).bind asB).bind fun P=>
 (addr? O).bind fun Q=>
 (F.2.2.rdN Q.1 Q.2 5).bind fun R=>
 some (.tuple #[R,.bool P],F.2.2)))) (
 (lf 17 [p',ptr st.next 0,ptr b.2.next 0] w.2).bind fun S=>
 cond (Nat.beq S.1 0) (
 (S.2.1[0]?).bind fun T=>
 (S.2.1[1]?).bind fun U=>
 (addr? U).bind fun V=>
 (S.2.2.ldN V.1 V.2 5).bind fun W=>
 (addr? T).bind fun X=>
 (S.2.2.stV X.1 X.2 5 W).bind fun Y=>
 (addr? T).bind fun Z=>
 (Y.rdN Z.1 Z.2 5).bind fun aA=>
 some (.tuple #[aA,.bool true],Y)) (
 (S.2.1[0]?).bind fun aB=>
 ((S.2.1[1]?).bind asB).bind fun aC=>
 (addr? aB).bind fun aD=>
 (S.2.2.rdN aD.1 aD.2 5).bind fun aE=>
 some (.tuple #[aE,.bool aC],S.2.2)))) (
 (cf 92 [p',.string ⟨#[46]⟩] i.2).bind fun aF=>
 ((some aF.1).bind asB).bind fun aG=>
 cond aG (
 (cf 93 [p'] aF.2).bind fun aH=>
 ((zal aH.1 0).bind asS).bind fun aI=>
 ((zal aH.1 1).bind asB).bind fun aJ=>
 (aH.2.st b.2.next 2 [.string aI]).bind fun aK=>
 cond (!aJ) (
 (aK.ldN b.2.next 0 5).bind fun aL=>
 (aK.stV st.next 0 5 aL).bind fun aM=>
 (aM.rdN st.next 0 5).bind fun aN=>
 some (.tuple #[aN,.bool false],aM)) (
 (lf 11 [p',ptr st.next 0,ptr b.2.next 0] aK).bind fun aO=>
 cond (Nat.beq aO.1 0) (
 (aO.2.1[0]?).bind fun aP=>
 (aO.2.1[1]?).bind fun aQ=>
 (addr? aQ).bind fun aR=>
 (aO.2.2.ldN aR.1 aR.2 5).bind fun aS=>
 (addr? aP).bind fun aT=>
 (aO.2.2.stV aT.1 aT.2 5 aS).bind fun aU=>
 (addr? aP).bind fun aV=>
 (aU.rdN aV.1 aV.2 5).bind fun aW=>
 some (.tuple #[aW,.bool true],aU)) (
 (aO.2.1[0]?).bind fun aX=>
 ((aO.2.1[1]?).bind asB).bind fun aY=>
 (addr? aX).bind fun aZ=>
 (aO.2.2.rdN aZ.1 aZ.2 5).bind fun bA=>
 some (.tuple #[bA,.bool aY],aO.2.2)))) (
 (lf 17 [p',ptr st.next 0,ptr b.2.next 0] aF.2).bind fun bB=>
 cond (Nat.beq bB.1 0) (
 (bB.2.1[0]?).bind fun bC=>
 (bB.2.1[1]?).bind fun bD=>
 (addr? bD).bind fun bE=>
 (bB.2.2.ldN bE.1 bE.2 5).bind fun bF=>
 (addr? bC).bind fun bG=>
 (bB.2.2.stV bG.1 bG.2 5 bF).bind fun bH=>
 (addr? bC).bind fun bI=>
 (bH.rdN bI.1 bI.2 5).bind fun bJ=>
 some (.tuple #[bJ,.bool true],bH)) (
 (bB.2.1[0]?).bind fun bK=>
 ((bB.2.1[1]?).bind asB).bind fun bL=>
 (addr? bK).bind fun bM=>
 (bB.2.2.rdN bM.1 bM.2 5).bind fun bN=>
 some (.tuple #[bN,.bool bL],bB.2.2))))) (
 (cf 92 [p',.string ⟨#[46]⟩] i.2).bind fun bO=>
 ((some bO.1).bind asB).bind fun bP=>
 cond bP (
 (cf 93 [p'] bO.2).bind fun bQ=>
 ((zal bQ.1 0).bind asS).bind fun bR=>
 ((zal bQ.1 1).bind asB).bind fun bS=>
 (bQ.2.st b.2.next 2 [.string bR]).bind fun bT=>
 cond (!bS) (
 (bT.ldN b.2.next 0 5).bind fun bU=>
 (bT.stV st.next 0 5 bU).bind fun bV=>
 (bV.rdN st.next 0 5).bind fun bW=>
 some (.tuple #[bW,.bool false],bV)) (
 (lf 11 [p',ptr st.next 0,ptr b.2.next 0] bT).bind fun bX=>
 cond (Nat.beq bX.1 0) (
 (bX.2.1[0]?).bind fun bY=>
 (bX.2.1[1]?).bind fun bZ=>
 (addr? bZ).bind fun cA=>
 (bX.2.2.ldN cA.1 cA.2 5).bind fun cB=>
 (addr? bY).bind fun cC=>
 (bX.2.2.stV cC.1 cC.2 5 cB).bind fun cD=>
 (addr? bY).bind fun cE=>
 (cD.rdN cE.1 cE.2 5).bind fun cF=>
 some (.tuple #[cF,.bool true],cD)) (
 (bX.2.1[0]?).bind fun cG=>
 ((bX.2.1[1]?).bind asB).bind fun cH=>
 (addr? cG).bind fun cI=>
 (bX.2.2.rdN cI.1 cI.2 5).bind fun cJ=>
 some (.tuple #[cJ,.bool cH],bX.2.2)))) (
 (lf 17 [p',ptr st.next 0,ptr b.2.next 0] bO.2).bind fun cK=>
 cond (Nat.beq cK.1 0) (
 (cK.2.1[0]?).bind fun cL=>
 (cK.2.1[1]?).bind fun cM=>
 (addr? cM).bind fun cN=>
 (cK.2.2.ldN cN.1 cN.2 5).bind fun cO=>
 (addr? cL).bind fun cP=>
 (cK.2.2.stV cP.1 cP.2 5 cO).bind fun cQ=>
 (addr? cL).bind fun cR=>
 (cQ.rdN cR.1 cR.2 5).bind fun cS=>
 some (.tuple #[cS,.bool true],cQ)) (
 (cK.2.1[0]?).bind fun cT=>
 ((cK.2.1[1]?).bind asB).bind fun cU=>
 (addr? cT).bind fun cV=>
 (cK.2.2.rdN cV.1 cV.2 5).bind fun cW=>
 some (.tuple #[cW,.bool cU],cK.2.2))))) (
 (cf 92 [p',.string ⟨#[46]⟩] i.2).bind fun cX=>
 ((some cX.1).bind asB).bind fun cY=>
 cond cY (
 (cf 93 [p'] cX.2).bind fun cZ=>
 ((zal cZ.1 0).bind asS).bind fun dA=>
 ((zal cZ.1 1).bind asB).bind fun dB=>
 (cZ.2.st b.2.next 2 [.string dA]).bind fun dC=>
 cond (!dB) (
 (dC.ldN b.2.next 0 5).bind fun dD=>
 (dC.stV st.next 0 5 dD).bind fun dE=>
 (dE.rdN st.next 0 5).bind fun dF=>
 some (.tuple #[dF,.bool false],dE)) (
 (lf 11 [p',ptr st.next 0,ptr b.2.next 0] dC).bind fun dG=>
 cond (Nat.beq dG.1 0) (
 (dG.2.1[0]?).bind fun dH=>
 (dG.2.1[1]?).bind fun dI=>
 (addr? dI).bind fun dJ=>
 (dG.2.2.ldN dJ.1 dJ.2 5).bind fun dK=>
 (addr? dH).bind fun dL=>
 (dG.2.2.stV dL.1 dL.2 5 dK).bind fun dM=>
 (addr? dH).bind fun dN=>
 (dM.rdN dN.1 dN.2 5).bind fun dO=>
 some (.tuple #[dO,.bool true],dM)) (
 (dG.2.1[0]?).bind fun dP=>
 ((dG.2.1[1]?).bind asB).bind fun dQ=>
 (addr? dP).bind fun dR=>
 (dG.2.2.rdN dR.1 dR.2 5).bind fun dS=>
 some (.tuple #[dS,.bool dQ],dG.2.2)))) (
 (lf 17 [p',ptr st.next 0,ptr b.2.next 0] cX.2).bind fun dT=>
 cond (Nat.beq dT.1 0) (
 (dT.2.1[0]?).bind fun dU=>
 (dT.2.1[1]?).bind fun dV=>
 (addr? dV).bind fun dW=>
 (dT.2.2.ldN dW.1 dW.2 5).bind fun dX=>
 (addr? dU).bind fun dY=>
 (dT.2.2.stV dY.1 dY.2 5 dX).bind fun dZ=>
 (addr? dU).bind fun gA=>
 (dZ.rdN gA.1 gA.2 5).bind fun gB=>
 some (.tuple #[gB,.bool true],dZ)) (
 (dT.2.1[0]?).bind fun gC=>
 ((dT.2.1[1]?).bind asB).bind fun gD=>
 (addr? gC).bind fun gE=>
 (dT.2.2.rdN gE.1 gE.2 5).bind fun gF=>
 some (.tuple #[gF,.bool gD],dT.2.2))))
noncomputable abbrev zay:zac:=lS Tryz.prog Lk0 Tryz.f68 zef
theorem zhk:Lk0.func 68=some (68,Tryz.f68):=by kernel_rfl
theorem zeg [Sym] (p':Value) (st:SS) {r:Value×SS} (h:zbT cc zay p' st=some r):cc 68 [p'] st=some r:=
 zad (li:=zef) zai zaq zhk rfl (fun _=>rfl) (.trans (by kernel_rfl) h)
noncomputable def zbN (cf:zak) (lf:zac) (p':Value) (t2':Value) (l':Value) (st:SS):Option (Nat×List Value×SS):=
 (cf 69 [p'] st).bind fun a=>
 ((zcR Lk0 150 0 a.1).bind (asI .i64)).bind fun b=>
 cond (!(decide (b=0))) (
 (cf 94 [p'] a.2).bind fun c=>
 (zal c.1 0).bind fun d=>
 ((zal c.1 1).bind asB).bind fun e=>
 let f:SS:=c.2.new (.cells [.string ⟨#[]⟩,.int .i64 0,.int .i64 0] 0)
 (f.stV c.2.next 0 3 d).bind fun g=>
 cond (!e) (
 (addr? l').bind fun h=>
 (g.ldN h.1 h.2 5).bind fun i=>
 (addr? t2').bind fun j=>
 (g.stV j.1 j.2 5 i).bind fun k=>
 some (1,[t2',.bool false],k)) (
 (addr? l').bind fun l=>
 (g.ld l.1 (l.2+3)).bind fun m=>
 (g.ldN c.2.next 0 3).bind fun n=>
 (zaP n 3).bind fun o=>
 let p:SS:=g.new (.cells (o++([])) 3)
 (p.app 3 32 m (.slice (some ⟨g.next,0,none⟩) 1 1)).bind fun q=>
 (addr? l').bind fun r=>
 (q.2.stV r.1 (r.2+3) 1 q.1).bind fun s=>
 lf 11 [p',t2',l'] s)) (
 some (0,[t2',l'],a.2))
theorem zb2 [Sym] (p':Value) (t2':Value) (l':Value) (st:SS) {r:Nat×List Value×SS} (h:zbN cc zay p' t2' l' st=some r):zay 11 [p',t2',l'] st=some r:=
 zaA zai zaq (key:=11) (I:=zdD) rfl (by kernel_rfl) (by kernel_rfl) rfl rfl (.trans (by kernel_rfl) h)
noncomputable def zbO (cf:zak) (lf:zac) (p':Value) (t2':Value) (l':Value) (st:SS):Option (Nat×List Value×SS):=
 (cf 69 [p'] st).bind fun a=>
 ((zcR Lk0 150 0 a.1).bind (asI .i64)).bind fun b=>
 cond (!(decide (b=0))) (
 (cf 95 [p',l'] a.2).bind fun c=>
 ((some c.1).bind asB).bind fun d=>
 cond (!d) (
 (addr? l').bind fun e=>
 (c.2.ldN e.1 e.2 5).bind fun f=>
 (addr? t2').bind fun g=>
 (c.2.stV g.1 g.2 5 f).bind fun h=>
 some (1,[t2',.bool false],h)) (
 lf 17 [p',t2',l'] c.2)) (
 some (0,[t2',l'],a.2))
theorem zb3 [Sym] (p':Value) (t2':Value) (l':Value) (st:SS) {r:Nat×List Value×SS} (h:zbO cc zay p' t2' l' st=some r):zay 17 [p',t2',l'] st=some r:=
 zaA zai zaq (key:=17) (I:=zdC) rfl (by kernel_rfl) (by kernel_rfl) rfl rfl (.trans (by kernel_rfl) h)
def zgb:LoopI:=⟨[(3,.any),(5,.any),(8,.any),(9,.any)],[(.exit 0,[(3,.any),(9,.any)]),(.ret,[(2,.any),(3,.any),(4,.int .i64)])]⟩
def zgC (n:Nat):Option LoopI:=cond (Nat.beq n 6) (some zgb) (none)
noncomputable def zew (cf:zak) (lf:zac) (text':ByteArray) (st:SS):Option (Value×SS):=
 let a:SS:=st.new (.cells [.int .i64 0,.int .i64 0] 0)
 (cf 67 [.string text'] a).bind fun b=>
 (zal b.1 0).bind fun c=>
 (zal b.1 1).bind fun d=>
 ((zal b.1 2).bind (asI .i64)).bind fun e=>
 let f:SS:=b.2.new (.cells [.int .i64 0,.int .i64 0] 0)
 (f.stV b.2.next 0 2 d).bind fun g=>
 cond (!(decide (e=0))) (
 (g.ldN b.2.next 0 2).bind fun h=>
 (g.stV st.next 0 2 h).bind fun i=>
 (i.rdN st.next 0 2).bind fun j=>
 some (.tuple #[.slice none 0 0,j,.int .i64 e],i)) (
 (zaP c 1).bind fun k=>
 let l:SS:=g.new (.cells (.agg ⟨spl [.slice none 0 0,.int .i64 0] 0 k⟩:Value).cells.toList 0)
 (lf 6 [ptr st.next 0,c,ptr g.next 0,.slice none 0 0] l).bind fun m=>
 cond (Nat.beq m.1 0) (
 (m.2.1[0]?).bind fun n=>
 (m.2.1[1]?).bind fun o=>
 (addr? n).bind fun p=>
 (m.2.2.st p.1 p.2 [.int .i64 0,.int .i64 0]).bind fun q=>
 (addr? n).bind fun r=>
 (q.rdN r.1 r.2 2).bind fun s=>
 some (.tuple #[o,s,.int .i64 0],q)) (
 (m.2.1[0]?).bind fun t=>
 (m.2.1[1]?).bind fun u=>
 ((m.2.1[2]?).bind (asI .i64)).bind fun v=>
 (addr? u).bind fun w=>
 (m.2.2.rdN w.1 w.2 2).bind fun x=>
 some (.tuple #[t,x,.int .i64 v],m.2.2)))
noncomputable abbrev zbn:zac:=lS Tryz.prog Lk0 Tryz.f42 zgC
theorem zk1:Lk0.func 42=some (42,Tryz.f42):=by kernel_rfl
theorem zex [Sym] (text':ByteArray) (st:SS) {r:Value×SS} (h:zew cc zbn text' st=some r):cc 42 [.string text'] st=some r:=
 zad (li:=zgC) zai zaq zk1 rfl (fun _=>rfl) (.trans (by kernel_rfl) h)
noncomputable def zbC (cf:zak) (lf:zac) (t3':Value) (tokens':Value) (p':Value) (out':Value) (st:SS):Option (Nat×List Value×SS):=
 (zar p').bind fun a=>
 (addr? a).bind fun b=>
 ((st.ld b.1 (b.2+1)).bind (asI .i64)).bind fun c=>
 ((lenV tokens').bind (asI .i64)).bind fun d=>
 cond (decide (c<d)) (
 (cf 68 [p'] st).bind fun e=>
 (zal e.1 0).bind fun f=>
 ((zal e.1 1).bind asB).bind fun g=>
 let h:SS:=e.2.new (.cells [.int .i64 0,.string ⟨#[]⟩,.string ⟨#[]⟩,.slice none 0 0,.slice none 0 0] 0)
 (h.stV e.2.next 0 5 f).bind fun i=>
 cond (!g) (
 (cf 69 [p'] i).bind fun j=>
 ((zcR Lk0 150 3 j.1).bind (asI .i64)).bind fun k=>
 (cf 69 [p'] j.2).bind fun l=>
 ((zcR Lk0 150 4 l.1).bind (asI .i64)).bind fun m=>
 (addr? t3').bind fun n=>
 (l.2.st n.1 n.2 [.int .i64 k,.int .i64 m]).bind fun o=>
 some (1,[.slice none 0 0,t3',.int .i64 4],o)) (
 (zar p').bind fun p=>
 (addr? p).bind fun q=>
 ((i.ld q.1 (q.2+1)).bind (asI .i64)).bind fun r=>
 let s:Int:=IntKind.wrap .i64 (r+1)
 (zar p').bind fun t=>
 (addr? t).bind fun u=>
 (i.st u.1 (u.2+1) [.int .i64 s]).bind fun v=>
 ((v.ld e.2.next 1).bind asS).bind fun w=>
 cond (!(eqT w ⟨#[]⟩)) (
 (v.ldN e.2.next 0 5).bind fun x=>
 (zaP x 5).bind fun y=>
 let z:SS:=v.new (.cells (y++([])) 5)
 (z.app 5 88 out' (.slice (some ⟨v.next,0,none⟩) 1 1)).bind fun A=>
 lf 6 [t3',tokens',p',A.1] A.2) (
 ((v.ld e.2.next 2).bind asS).bind fun B=>
 cond (!(eqT B ⟨#[]⟩)) (
 (v.ldN e.2.next 0 5).bind fun C=>
 (zaP C 5).bind fun D=>
 let E:SS:=v.new (.cells (D++([])) 5)
 (E.app 5 88 out' (.slice (some ⟨v.next,0,none⟩) 1 1)).bind fun F=>
 lf 6 [t3',tokens',p',F.1] F.2) (
 (v.ld e.2.next 4).bind fun G=>
 ((lenV G).bind (asI .i64)).bind fun H=>
 cond (decide (0<H)) (
 (v.ldN e.2.next 0 5).bind fun I=>
 (zaP I 5).bind fun J=>
 let K:SS:=v.new (.cells (J++([])) 5)
 (K.app 5 88 out' (.slice (some ⟨v.next,0,none⟩) 1 1)).bind fun L=>
 lf 6 [t3',tokens',p',L.1] L.2) (
 lf 6 [t3',tokens',p',out'] v))))) (
 some (0,[t3',out'],st))
theorem zcx [Sym] (t3':Value) (tokens':Value) (p':Value) (out':Value) (st:SS) {r:Nat×List Value×SS} (h:zbC cc zbn t3' tokens' p' out' st=some r):zbn 6 [t3',tokens',p',out'] st=some r:=
 zaA zai zaq (key:=6) (I:=zgb) rfl (by kernel_rfl) (by kernel_rfl) rfl rfl (.trans (by kernel_rfl) h)
end Go.Proofs.YtifploedaacedaaGreatDoorE
namespace Go.Proofs.YtifploedaacedaaGreatDoorE
open Go Go.E Go.Proofs
theorem zbj (b k:Nat):zar (ptr b k)=some (ptr b k):=rfl
structure PHas (st:SS) (b:Nat) (v:Value) (us:List (Nat×Tok)) (i:Nat):Prop where
 mem:st.mem.get b=some (.cells [v,.int .i64 i] 0)
 lt:b<st.next
 rd:Rd st v (rowsL us) 5 us.length
 sz:us.length≤1099511627776
theorem PHas.ext {st st':SS} {b i:Nat} {v:Value} {us:List (Nat×Tok)} (h:PHas st b v us i) (x:Ext st st'):PHas st' b v us i:=
 ⟨x.get h.lt h.mem,zll h.lt x.next,h.rd.ext x,h.sz⟩
theorem PHas.ro {st:SS} {b i n:Nat} {v:Value} {us:List (Nat×Tok)} (h:PHas st b v us i):PHas (st.ro n) b v us i:=⟨h.mem,h.lt,h.rd,h.sz⟩
structure PAt (st:SS) (b:Nat) (v:Value) (us:List (Nat×Tok)) (i:Nat):Prop where
 blk:At st b [v,.int .i64 i]
 rd:Rd st v (rowsL us) 5 us.length
 vb:∀ j k l q,v=.slice (some ⟨j,k,none⟩) l q→j<b
 sz:us.length≤1099511627776
 ll:st.lim≤st.next
section
variable {S : List Nat} {st st' : SS} {b i : Nat} {v : Value} {us : List (Nat × Tok)}
theorem PAt.has (h:PAt st b v us i):PHas st b v us i:=⟨h.blk.mem,h.blk.lt,h.rd,h.sz⟩
theorem PAt.mod (h:PAt st b v us i) (m:Mod S st st') (hS:∀ j,j∈S→b<j):PAt st' b v us i:=
 ⟨h.blk.mod m (fun hm=>by have:=hS b hm;omega),h.rd.mod m (fun j k l q e hm=>by have:=hS j hm;have:=h.vb j k l q e;omega),h.vb,h.sz,m.ll h.ll⟩
theorem PAt.ext (h:PAt st b v us i) (x:Ext st st'):PAt st' b v us i:=h.mod (S:=[]) (.ofExt x) (fun _ hj=>by cases hj)
theorem PAt.modI {j:Nat} (h:PAt st b v us i) (m:Mod [j] st st') (hj:b<j):PAt st' b v us i:=h.mod m fun k hk=>(show k=j by simpa using hk) ▸ hj
theorem PAt.move (h:PAt st b v us i) (i':Nat):∃ st',st.st b 1 [.int .i64 i']=some st'∧PAt st' b v us i'∧Mod [b] st st'∧st'.next=st.next:=by
 obtain ⟨st',e,a,m,n⟩:=h.blk.sto (k:=1) (vs:=[.int .i64 i']) (row':=[v,.int .i64 i']) rfl rfl
 exact ⟨st',e,⟨a,h.rd.mod m (fun j k l q e hm=>by have:j=b:=by simpa using hm
                                                  have:=h.vb j k l q e;omega),h.vb,h.sz,m.ll h.ll⟩,m,n⟩
end
abbrev Z5:List Value:=[.int .i64 0,.string ⟨#[]⟩,.int .i64 0,.int .i64 0,.int .i64 0]
theorem zbZ [Sym] {st:SS} {b i:Nat} {v:Value} {us:List (Nat×Tok)} (h:PHas st b v us i) {t:Nat×Tok} (ht:us[i]?=some t):
  ∃ n,st.next≤n∧cc 69 [ptr b 0] st=some (.agg (zaR t.1 t.2).toArray,st.adv n):=by
 obtain ⟨st10,e10,a10,x10,_⟩:=za4 (st:=st.ro st.next) (zlr _) (r:=Z5) (zaC (zaR t.1 t.2)) (n:=5) rfl rfl rfl
 have h1:=(h.ro (n:=st.next)).ext ((Ext.refl (st.ro st.next)).new (.cells Z5 0))
 have hlt:(i:Int)<(us.length:Int):=by have:=(List.getElem?_eq_some_iff.1 ht).1;omega
 obtain ⟨q,b1,b2,_⟩:=h1.rd.load (j:=(i:Int)) (by omega) hlt (zgw us i t ht) rfl
 have l0:((st.ro st.next).new (.cells Z5 0)).ld b 0=some v:=by rw [SS.ld_cells h1.mem];rfl
 have l1:((st.ro st.next).new (.cells Z5 0)).ld b 1=some (.int .i64 i):=by rw [SS.ld_cells h1.mem];rfl
 have hr:st10.rdN (st.ro st.next).next 0 5=some (.agg (zaR t.1 t.2).toArray):=a10.rdN rfl
 refine ⟨st10.next,x10.next,zh5 _ st ?_⟩
 have e10':((st.ro st.next).new (.cells Z5 0)).stV st.next 0 5 (.agg (zaR t.1 t.2).toArray)=some st10:=e10
 have hr':st10.rdN st.next 0 5=some (.agg (zaR t.1 t.2).toArray):=hr
 simp only [zfp,SS.ro_next,zbj,zob,zaf,l0,Nat.zero_add,l1,zaa,b1,b2,e10',hr']
 rfl
theorem zb8 {ln:Nat} {t:Tok}:(zcR Lk0 150 0 (.agg (zaR ln t).toArray)).bind (asI .i64)=some (t.kd:Int)∧(zcR Lk0 150 1 (.agg (zaR ln t).toArray)).bind asS=some (mkS t.tx)∧
  (zcR Lk0 150 3 (.agg (zaR ln t).toArray)).bind (asI .i64)=some (ln:Int)∧(zcR Lk0 150 4 (.agg (zaR ln t).toArray)).bind (asI .i64)=some (t.col:Int):=⟨by kernel_rfl,by kernel_rfl,by kernel_rfl,by kernel_rfl⟩
theorem zsR [Sym] {st:SS} {b i:Nat} {v:Value} {us:List (Nat×Tok)} (h:PHas st b v us i) {t u:Nat×Tok} (ht:us[i]?=some t) (hu:us[if t.2.kd=0 then i else i+1]?=some u):
  ∃ n,st.next≤n∧cc 91 [ptr b 0] st=some (.agg (zaR u.1 u.2).toArray,st.adv n):=by
 have h1:=(h.ro (n:=st.next)).ext ((Ext.refl (st.ro st.next)).new (.cells Z5 0))
 obtain ⟨n,hn,c1⟩:=zbZ h1 ht
 have a0:At ((st.ro st.next).new (.cells Z5 0)) st.next Z5:=At.new (st:=st.ro st.next) (zlr _) Z5
 have h2:=h1.ext (Ext.advR _ hn)
 have a2:=a0.adv hn
 by_cases hk:t.2.kd=0
 ·rw [if_pos hk,ht] at hu
  cases hu
  obtain ⟨m,hm,c2⟩:=zbZ h2 ht
  have a3:=a2.adv hm
  obtain ⟨st5,e5,a5,m5,n5⟩:=a3.stV (k:=0) (zaC (zaR t.1 t.2)) (n:=5) rfl rfl (row':=zaR t.1 t.2) rfl
  have hr:st5.rdN st.next 0 5=some (.agg (zaR t.1 t.2).toArray):=a5.rdN rfl
  have hk':(t.2.kd:Int)=0:=by omega
  have hle:st.next≤st5.next:=by rw [n5];simp at hn hm ⊢;omega
  refine ⟨st5.next,hle,zed _ st ?_⟩
  simp only [zdo,SS.ro_next,c1,c2,zob,zb8.1,zdt hk',zct,e5,hr]
  rfl
 ·rw [if_neg hk] at hu
  have hlt:((i+1:Nat):Int)<(us.length:Int):=by have:=(List.getElem?_eq_some_iff.1 hu).1;omega
  obtain ⟨q,b1,b2,_⟩:=h2.rd.load (j:=((i+1:Nat):Int)) (by omega) hlt (zgw us (i+1) u hu) rfl
  have hk':¬ (t.2.kd:Int)=0:=by omega
  obtain ⟨st5,e5,a5,m5,n5⟩:=a2.stV (k:=0) (zaC (zaR u.1 u.2)) (n:=5) rfl rfl (row':=zaR u.1 u.2) rfl
  have hr:st5.rdN st.next 0 5=some (.agg (zaR u.1 u.2).toArray):=a5.rdN rfl
  have l0:(((st.ro st.next).new (.cells Z5 0)).adv n).ld b 0=some v:=by rw [SS.ld_cells h2.mem];rfl
  have l1:(((st.ro st.next).new (.cells Z5 0)).adv n).ld b 1=some (.int .i64 i):=by rw [SS.ld_cells h2.mem];rfl
  have hw:IntKind.wrap .i64 ((i:Int)+1)=((i+1:Nat):Int):=by have:=h.sz;rw [wrap64 (by omega) (by omega)];omega
  have hle:st.next≤st5.next:=by rw [n5];simp at hn ⊢;omega
  refine ⟨st5.next,hle,zed _ st ?_⟩
  simp only [zdo,SS.ro_next,c1,zob,zb8.1,zdf hk',zcf,zbj,zaf,l0,Nat.zero_add,l1,zaa,hw,b1,b2,e5,hr]
  rfl
theorem zlF {st:SS} {n:Nat} (hl:st.lim≤n) (t:Nat×Tok):∃ st',((st.adv n).new (.cells Z5 0)).stV n 0 5 (.agg (zaR t.1 t.2).toArray)=some st'∧At st' n (zaR t.1 t.2)∧Ext (st.adv n) st':=by
 obtain ⟨st',a,b,c,_⟩:=za4 (st:=st.adv n) hl (r:=Z5) (zaC (zaR t.1 t.2)) (n:=5) rfl rfl rfl
 exact ⟨st',a,b,c⟩
theorem zeh (a b:List UInt8):eqT (mkS a) (mkS b)=decide (a=b):=by rw [zd4,zbB,zbB]
theorem zh6 [Sym] {st:SS} {b i:Nat} {v:Value} {us:List (Nat×Tok)} (h:PAt st b v us i) {t:Nat×Tok} (ht:us[i]?=some t) (sg:List UInt8):
  ∃ st',cc 92 [ptr b 0,.string (mkS sg)] st=some (.bool (zaB t.2 sg),st')∧Mod [b] st st'∧PAt st' b v us (if zaB t.2 sg=true then i+1 else i):=by
 obtain ⟨n,hn,h1⟩:=zbZ h.has ht
 obtain ⟨st3,e3,a3,x3⟩:=zlF (st:=st) (n:=n) (zlt h.ll hn) t
 have x:Ext st st3:=(Ext.advR st hn).trans x3
 have hp:=h.ext x
 have k0:st3.ld n 0=some (.int .i64 t.2.kd):=a3.ld
 have k1:st3.ld n 1=some (.string (mkS t.2.tx)):=a3.ld
 have hi:=(List.getElem?_eq_some_iff.1 ht).1
 have hsz:=h.sz
 by_cases hk:t.2.kd=3
 ·have hk':(t.2.kd:Int)=3:=by omega
  by_cases hx:t.2.tx=sg
  ·have hs:zaB t.2 sg=true:=by simp [zaB,hk,hx]
   obtain ⟨st4,e4,p4,m4,_⟩:=hp.move (i+1)
   have hl1:st3.ld b 1=some (.int .i64 i):=hp.blk.ld
   rw [hs]
   refine ⟨st4,zcB _ _ st ?_,(Mod.ofExt x).then m4,p4⟩
   simp only [zch,h1,zob,SS.adv_next,e3,k0,k1,zaa,zab,zdt hk',znt,zcf,zeh,zdt hx,zbj,zaf,Nat.zero_add,hl1,zbf (show i≤1099511627776 by omega),e4]
  ·have hs:zaB t.2 sg=false:=by simp [zaB,hk,hx]
   rw [hs]
   refine ⟨st3,zcB _ _ st ?_,.ofExt x,hp⟩
   simp only [zch,h1,zob,SS.adv_next,e3,k0,k1,zaa,zab,zdt hk',znt,zcf,zeh,zdf hx,znf,zct]
 ·have hk':¬ (t.2.kd:Int)=3:=by omega
  have hs:zaB t.2 sg=false:=by simp [zaB,hk]
  rw [hs]
  refine ⟨st3,zcB _ _ st ?_,.ofExt x,hp⟩
  simp only [zch,h1,zob,SS.adv_next,e3,k0,zaa,zdf hk',znf,zct]
theorem zoy [Sym] {st:SS} {b i:Nat} {v:Value} {us:List (Nat×Tok)} (h:PAt st b v us i) {t:Nat×Tok} (ht:us[i]?=some t):
  ∃ st',cc 93 [ptr b 0] st=some (.tuple #[.string (mkS (if t.2.kd=1 then t.2.tx else [])),.bool (decide (t.2.kd=1))],st')∧Mod [b] st st'∧PAt st' b v us (if t.2.kd=1 then i+1 else i):=by
 obtain ⟨n,hn,h1⟩:=zbZ h.has ht
 obtain ⟨st3,e3,a3,x3⟩:=zlF (st:=st) (n:=n) (zlt h.ll hn) t
 have x:Ext st st3:=(Ext.advR st hn).trans x3
 have hp:=h.ext x
 have k0:st3.ld n 0=some (.int .i64 t.2.kd):=a3.ld
 have hi:=(List.getElem?_eq_some_iff.1 ht).1
 have hsz:=h.sz
 by_cases hk:t.2.kd=1
 ·have hk':(t.2.kd:Int)=1:=by omega
  obtain ⟨st4,e4,p4,m4,_⟩:=hp.move (i+1)
  have hl1:st3.ld b 1=some (.int .i64 i):=hp.blk.ld
  have hne:n≠b:=by have:=h.blk.lt;omega
  have k1:st4.ld n 1=some (.string (mkS t.2.tx)):=(a3.mod m4 (by simpa using hne)).ld
  rw [if_pos hk,if_pos hk,zdt hk]
  refine ⟨st4,zee _ st ?_,(Mod.ofExt x).then m4,p4⟩
  simp only [zdp,h1,zob,SS.adv_next,e3,k0,zaa,zdt hk',znt,zcf,zbj,zaf,Nat.zero_add,hl1,zbf (show i≤1099511627776 by omega),e4,k1,zab]
 ·have hk':¬ (t.2.kd:Int)=1:=by omega
  rw [if_neg hk,if_neg hk,zdf hk]
  refine ⟨st3,zee _ st ?_,.ofExt x,hp⟩
  simp only [zdp,h1,zob,SS.adv_next,e3,k0,zaa,zdf hk',znf,zct]
  rfl
theorem zh7 [Sym] {st:SS} {b i:Nat} {v:Value} {us:List (Nat×Tok)} (h:PAt st b v us i) {t:Nat×Tok} (ht:us[i]?=some t):
  ∃ st',cc 111 [ptr b 0] st=some (.tuple #[.int .i64 (if t.2.kd=2 then t.2.nm else 0),.bool (decide (t.2.kd=2))],st')∧Mod [b] st st'∧PAt st' b v us (if t.2.kd=2 then i+1 else i):=by
 obtain ⟨n,hn,h1⟩:=zbZ h.has ht
 obtain ⟨st3,e3,a3,x3⟩:=zlF (st:=st) (n:=n) (zlt h.ll hn) t
 have x:Ext st st3:=(Ext.advR st hn).trans x3
 have hp:=h.ext x
 have k0:st3.ld n 0=some (.int .i64 t.2.kd):=a3.ld
 have hi:=(List.getElem?_eq_some_iff.1 ht).1
 have hsz:=h.sz
 by_cases hk:t.2.kd=2
 ·have hk':(t.2.kd:Int)=2:=by omega
  obtain ⟨st4,e4,p4,m4,_⟩:=hp.move (i+1)
  have hl1:st3.ld b 1=some (.int .i64 i):=hp.blk.ld
  have hne:n≠b:=by have:=h.blk.lt;omega
  have k1:st4.ld n 2=some (.int .i64 t.2.nm):=(a3.mod m4 (by simpa using hne)).ld
  rw [if_pos hk,if_pos hk,zdt hk]
  refine ⟨st4,zdB _ st ?_,(Mod.ofExt x).then m4,p4⟩
  simp only [zcZ,h1,zob,SS.adv_next,e3,k0,zaa,zdt hk',znt,zcf,zbj,zaf,Nat.zero_add,hl1,zbf (show i≤1099511627776 by omega),e4,k1]
 ·have hk':¬ (t.2.kd:Int)=2:=by omega
  rw [if_neg hk,if_neg hk,zdf hk]
  refine ⟨st3,zdB _ st ?_,.ofExt x,hp⟩
  simp only [zcZ,h1,zob,SS.adv_next,e3,k0,zaa,zdf hk',znf,zct]
structure LineAt (us:List (Nat×Tok)) (i ln:Nat) (l:List Tok):Prop where
 drop:∃ rest,us.drop i=(l.map fun t=>(ln,t))++rest
 lin:Lin l
 ok:∀ t∈l,TokOk t
theorem LineAt.head {us:List (Nat×Tok)} {i ln:Nat} {t:Tok} {r:List Tok} (h:LineAt us i ln (t::r)):us[i]?=some (ln,t):=by
 obtain ⟨rest,hr⟩:=h.drop
 have:=congrArg (·[0]?) hr
 simpa using this
theorem LineAt.tail {us:List (Nat×Tok)} {i ln:Nat} {t:Tok} {r:List Tok} (h:LineAt us i ln (t::r)) (hk:t.kd≠0):LineAt us (i+1) ln r:=by
 refine ⟨?_,h.lin.tail hk,fun u hu=>h.ok u (List.mem_cons_of_mem _ hu)⟩
 obtain ⟨rest,hr⟩:=h.drop
 refine ⟨rest,?_⟩
 have:=drop_cons h.head
 rw [hr] at this
 exact (List.cons.inj this).2.symm
theorem LineAt.tok {us:List (Nat×Tok)} {i ln:Nat} {t:Tok} {r:List Tok} (h:LineAt us i ln (t::r)):TokOk t:=h.ok t (List.mem_cons_self ..)
end Go.Proofs.YtifploedaacedaaGreatDoorE
namespace Go.Proofs.YtifploedaacedaaGreatDoorE
set_option maxRecDepth 20000
open Go Go.E Go.Proofs
noncomputable def zkc (cf:zak) (lf:zac) (s':Value) (q':Nat) (st:SS):Option (Value×SS):=
 (cf 133 [s',.func (.func 113) #[] #[ptr q' 0]] (st.ro st.next)).bind fun a=>
 ((some a.1).bind (asI .i64)).bind fun b=>
 some (.bool (decide (0≤b)),st.adv a.2.next)
noncomputable abbrev zn9:zac:=lS Tryz.prog Lk0 Tryz.f112 zaw
theorem zoa:Lk0.func 112=some (112,Tryz.f112):=by kernel_rfl
theorem zoc [Sym] (s':Value) (q':Nat) (st:SS) {r:Value×SS} (h:zkc cc zn9 s' q' st=some r):cc 112 [s',.func (.func 113) #[] #[ptr q' 0]] st=some r:=
 zad (li:=zaw) zai zaq zoa rfl (fun _=>rfl) (.trans (by kernel_rfl) h)
def zjP:LoopI:=⟨[(0,.any),(1,.any),(7,.int .i64),(8,.int .i64)],[(.exit 0,[]),(.ret,[(4,.int .i64)])]⟩
def zk2 (n:Nat):Option LoopI:=cond (Nat.beq n 2) (some zjP) (none)
noncomputable def zlG (cf:zak) (lf:zac) (s':Value) (q':Nat) (st:SS):Option (Value×SS):=
 ((lenV s').bind (asI .i64)).bind fun a=>
 (lf 2 [s',.func (.func 113) #[] #[ptr q' 0],.int .i64 a,.int .i64 0] (st.ro st.next)).bind fun b=>
 cond (Nat.beq b.1 0) (
 some (.int .i64 (-1),st.adv b.2.2.next)) (
 ((b.2.1[0]?).bind (asI .i64)).bind fun c=>
 some (.int .i64 c,st.adv b.2.2.next))
noncomputable abbrev zey:zac:=lS Tryz.prog Lk0 Tryz.f133 zk2
theorem zpq:Lk0.func 133=some (133,Tryz.f133):=by kernel_rfl
theorem zk3 [Sym] (s':Value) (q':Nat) (st:SS) {r:Value×SS} (h:zlG cc zey s' q' st=some r):cc 133 [s',.func (.func 113) #[] #[ptr q' 0]] st=some r:=
 zad (li:=zk2) zai zaq zpq rfl (fun _=>rfl) (.trans (by kernel_rfl) h)
noncomputable def zfJ (cf:zak) (lf:zac) (s':Value) (q':Nat) (t7':Int) (t8':Int) (st:SS):Option (Nat×List Value×SS):=
 cond (decide (t8'<t7')) (
 (zas s' t8' 5).bind fun a=>
 (st.ldN a.1 a.2 5).bind fun b=>
 (cf 113 [b,ptr q' 0] st).bind fun c=>
 ((some c.1).bind asB).bind fun d=>
 cond d (
 some (1,[.int .i64 t8'],c.2)) (
 let e:Int:=IntKind.wrap .i64 (t8'+1)
 lf 2 [s',.func (.func 113) #[] #[ptr q' 0],.int .i64 t7',.int .i64 e] c.2)) (
 some (0,[],st))
theorem zfl [Sym] (s':Value) (q':Nat) (t7':Int) (t8':Int) (st:SS) {r:Nat×List Value×SS} (h:zfJ cc zey s' q' t7' t8' st=some r):zey 2 [s',.func (.func 113) #[] #[ptr q' 0],.int .i64 t7',.int .i64 t8'] st=some r:=
 zaA zai zaq (key:=2) (I:=zjP) rfl (by kernel_rfl) (by kernel_rfl) rfl rfl (.trans (by kernel_rfl) h)
noncomputable def zqw (cf:zak) (lf:zac) (y':Value) (x1':Value) (st:SS):Option (Value×SS):=
 let a:SS:=(st.ro st.next).new (.cells (y':Value).cells.toList 0)
 ((a.ld ((st.ro st.next).next) 0).bind asS).bind fun b=>
 (addr? x1').bind fun c=>
 ((a.ld c.1 c.2).bind asS).bind fun d=>
 some (.bool (eqT b d),st.adv a.next)
noncomputable abbrev zqx:zac:=lS Tryz.prog Lk0 Tryz.f113 zaw
theorem zqy:Lk0.func 113=some (113,Tryz.f113):=by kernel_rfl
theorem zqz [Sym] (y':Value) (x1':Value) (st:SS) {r:Value×SS} (h:zqw cc zqx y' x1' st=some r):cc 113 [y',x1'] st=some r:=
 zad (li:=zaw) zai zaq zqy rfl (fun _=>rfl) (.trans (by kernel_rfl) h)
end Go.Proofs.YtifploedaacedaaGreatDoorE
namespace Go.Proofs.YtifploedaacedaaGreatDoorE
open Go Go.E Go.Proofs
def valRow (x:Val):List Value:=[.string (mkS x.nm),.int .i64 x.x,.int .i64 x.col]
def prRow (p:Pr):List Value:=[.string (mkS p.fd),.int .i64 p.col,.string (mkS p.v.nm),.int .i64 p.v.x,.int .i64 p.v.col]
abbrev Z3:List Value:=[.string ⟨#[]⟩,.int .i64 0,.int .i64 0]
theorem LineAt.sz {st:SS} {b i ln:Nat} {v:Value} {us:List (Nat×Tok)} {l:List Tok} (h:PAt st b v us i) (hl:LineAt us i ln l):i≤1099511627776:=by
 obtain ⟨t,r,rfl⟩:=hl.lin.ne
 have:=(List.getElem?_eq_some_iff.1 hl.head).1
 have:=h.sz
 omega
theorem zsS {n:Int} (h0:0≤n) (h1:n≤2147483647):IntKind.wrap .i64 (0-n)= -n:=by rw [wrap64 (by omega) (by omega)];omega
def ValR (b:Nat) (v:Value) (us:List (Nat×Tok)) (i:Nat) (st:SS) (r:Option (Value×SS)):Except Nat (Val×Nat)→Prop
 | .ok (x,n)=>∃ st',r=some (.tuple #[.agg (valRow x).toArray,.bool true],st')∧Mod [b] st st'∧PAt st' b v us (i+n)
 | .error o=>∃ w st',r=some (.tuple #[.agg (valRow w).toArray,.bool false],st')∧Mod [b] st st'∧PAt st' b v us (i+o)
theorem zny [Sym] {st:SS} {b i ln:Nat} {v:Value} {us:List (Nat×Tok)} {l:List Tok} (h:PAt st b v us i) (hl:LineAt us i ln l):
  ValR b v us i st (cc 94 [ptr b 0] st) (zdy l):=by
 obtain ⟨t,r,rfl⟩:=hl.lin.ne
 have hb:=h.blk.lt
 have a1:At (st.new (.cells Z3 0)) st.next Z3:=At.new h.ll Z3
 have x1:Ext st (st.new (.cells Z3 0)):=(Ext.refl st).new _
 obtain ⟨n,hn,c1⟩:=zbZ (h.ext x1).has hl.head
 have hn':st.next+1≤n:=hn
 obtain ⟨s5,e5,a5,x5,_⟩:=zkU (st:=(st.new (.cells Z3 0)).adv n) (zlt h.ll (by simp;omega)) (r:=Z3) (row:=[.string ⟨#[]⟩,.int .i64 0,.int .i64 t.col]) rfl rfl
 have x05:Ext st s5:=x1.trans ((Ext.advR _ hn).trans x5)
 have b5:At s5 st.next Z3:=(a1.adv hn).ext x5
 obtain ⟨s6,c6,m6,p6⟩:=zh7 (h.ext x05) hl.head
 have a6:=a5.mod m6 (by simp;omega)
 have b6:=b5.mod m6 (by simp;omega)
 have M6:Mod [b] st s6:=(Mod.ofExt x05).then m6
 have k4:=(zb8 (ln:=ln) (t:=t)).2.2.2
 have cN:∀ row:List Value,row.length=3→∀ d:List Value,d=row→True:=fun _ _ _ _=>trivial
 by_cases h2:t.kd=2
 ·rw [if_pos h2,zdt h2] at c6
  rw [if_pos h2] at p6
  obtain ⟨s9,e9,a9,m9,_⟩:=a6.sto (k:=1) (vs:=[.int .i64 t.nm]) (row':=valRow ⟨[],t.nm,t.col⟩) rfl rfl
  have b9:=b6.mod m9 (by simp;omega)
  obtain ⟨s11,f1,f2,f3,f4,_⟩:=zbY (n:=3) b9 rfl a9 rfl rfl
  rw [zfI,if_pos h2]
  refine ⟨s11,zaU _ st ?_,(M6.thenI m9 (.inl (by simp;omega))).thenI f4 (.inl (zlr _)),(p6.modI m9 (by simp;omega)).modI f4 hb⟩
  simp only [zaV,c1,zob,k4,e5,c6,zal,List.getElem?_toArray,zgs,zgz,zaa,zam,e9,zct,f1,f2,f3]
 ·rw [if_neg h2,zdf h2] at c6
  rw [if_neg h2] at p6
  obtain ⟨s9,e9,a9,m9,_⟩:=a6.sto (k:=1) (vs:=[.int .i64 0]) (row':=valRow ⟨[],0,t.col⟩) rfl rfl
  have b9:=b6.mod m9 (by simp;omega)
  have p9:=p6.modI m9 (by simp;omega)
  have M9:=M6.thenI m9 (.inl (by simp;omega))
  obtain ⟨s13,c13,m13,p13⟩:=zoy p9 hl.head
  have a13:=a9.mod m13 (by simp;omega)
  have b13:=b9.mod m13 (by simp;omega)
  have M13:=M9.then m13
  rw [zfI,if_neg h2]
  by_cases h1:t.kd=1
  ·rw [if_pos h1,zdt h1] at c13
   rw [if_pos h1] at p13
   rw [if_pos h1]
   have hl1:=hl.tail (by omega)
   obtain ⟨s,u,rfl⟩:=hl1.lin.ne
   obtain ⟨s16,e16,a16,m16,_⟩:=a13.sto (k:=0) (vs:=[.string (mkS t.tx)]) (row':=valRow ⟨t.tx,0,t.col⟩) rfl rfl
   have b16:=b13.mod m16 (by simp;omega)
   have p16:=p13.modI m16 (by simp;omega)
   have M16:=M13.thenI m16 (.inl (by simp;omega))
   obtain ⟨s20,c20,m20,p20⟩:=zh6 p16 hl1.head [43]
   have c20':cc 92 [ptr b 0,.string ⟨#[43]⟩] s16=some (.bool (zaB s [43]),s20):=c20
   have a20:=a16.mod m20 (by simp;omega)
   have b20:=b16.mod m20 (by simp;omega)
   have M20:=M16.then m20
   simp only
   by_cases hp:zaB s [43]=true
   ·rw [hp] at c20'
    rw [if_pos hp] at p20
    rw [if_pos hp]
    have hl2:=hl1.tail (by have:=zcw hp;omega)
    obtain ⟨w,z,rfl⟩:=hl2.lin.ne
    obtain ⟨s22,c22,m22,p22⟩:=zh7 p20 hl2.head
    have a22:=a20.mod m22 (by simp;omega)
    have b22:=b20.mod m22 (by simp;omega)
    have M22:=M20.then m22
    simp only
    by_cases hw:w.kd=2
    ·rw [if_pos hw,zdt hw] at c22
     rw [if_pos hw] at p22
     rw [if_pos hw]
     obtain ⟨s25,e25,a25,m25,_⟩:=a22.sto (k:=1) (vs:=[.int .i64 w.nm]) (row':=valRow ⟨t.tx,w.nm,t.col⟩) rfl rfl
     have b25:=b22.mod m25 (by simp;omega)
     obtain ⟨s27,f1,f2,f3,f4,_⟩:=zbY (n:=3) b25 rfl a25 rfl rfl
     refine ⟨s27,zaU _ st ?_,(M22.thenI m25 (.inl (by simp;omega))).thenI f4 (.inl (zlr _)),(p22.modI m25 (by simp;omega)).modI f4 hb⟩
     simp only [zaV,c1,zob,k4,e5,c6,zal,List.getElem?_toArray,zgs,zgz,zaa,zam,e9,zcf,c13,zab,e16,znt,c20',zct,c22,e25,f1,f2,f3]
    ·rw [if_neg hw,zdf hw] at c22
     rw [if_neg hw] at p22
     rw [if_neg hw]
     obtain ⟨s25,e25,a25,m25,_⟩:=a22.sto (k:=1) (vs:=[.int .i64 0]) (row':=valRow ⟨t.tx,0,t.col⟩) rfl rfl
     have b25:=b22.mod m25 (by simp;omega)
     obtain ⟨s27,f1,f2,f3,f4,_⟩:=zbY (n:=3) b25 rfl a25 rfl rfl
     refine ⟨⟨t.tx,0,t.col⟩,s27,zaU _ st ?_,(M22.thenI m25 (.inl (by simp;omega))).thenI f4 (.inl (zlr _)),(p22.modI m25 (by simp;omega)).modI f4 hb⟩
     simp only [zaV,c1,zob,k4,e5,c6,zal,List.getElem?_toArray,zgs,zgz,zaa,zam,e9,zcf,c13,zab,e16,znt,c20',zct,c22,e25,f1,f2,f3]
   ·rw [if_neg hp] at p20
    have hp':zaB s [43]=false:=Bool.eq_false_iff.2 hp
    rw [hp'] at c20'
    rw [if_neg hp]
    obtain ⟨s29,c29,m29,p29⟩:=zh6 p20 hl1.head [45]
    have c29':cc 92 [ptr b 0,.string ⟨#[45]⟩] s20=some (.bool (zaB s [45]),s29):=c29
    have a29:=a20.mod m29 (by simp;omega)
    have b29:=b20.mod m29 (by simp;omega)
    have M29:=M20.then m29
    by_cases hm:zaB s [45]=true
    ·rw [hm] at c29'
     rw [if_pos hm] at p29
     rw [if_pos hm]
     have hl2:=hl1.tail (by have:=zcw hm;omega)
     obtain ⟨w,z,rfl⟩:=hl2.lin.ne
     obtain ⟨s31,c31,m31,p31⟩:=zh7 p29 hl2.head
     have a31:=a29.mod m31 (by simp;omega)
     have b31:=b29.mod m31 (by simp;omega)
     have M31:=M29.then m31
     simp only
     by_cases hw:w.kd=2
     ·rw [if_pos hw,zdt hw] at c31
      rw [if_pos hw] at p31
      rw [if_pos hw]
      obtain ⟨s34,e34,a34,m34,_⟩:=a31.sto (k:=1) (vs:=[.int .i64 w.nm]) (row':=valRow ⟨t.tx,w.nm,t.col⟩) rfl rfl
      have b34:=b31.mod m34 (by simp;omega)
      have l34:s34.ld ((st.new (.cells Z3 0)).adv n).next 1=some (.int .i64 w.nm):=a34.ld
      obtain ⟨s37,e37,a37,m37,_⟩:=a34.sto (k:=1) (vs:=[.int .i64 (-w.nm)]) (row':=valRow ⟨t.tx, -w.nm,t.col⟩) rfl rfl
      have b37:=b34.mod m37 (by simp;omega)
      obtain ⟨s39,f1,f2,f3,f4,_⟩:=zbY (n:=3) b37 rfl a37 rfl rfl
      have hneg:=zsS hl2.tok.nm0 hl2.tok.nm1
      refine ⟨s39,zaU _ st ?_,((M31.thenI m34 (.inl (by simp;omega))).thenI m37 (.inl (by simp;omega))).thenI f4 (.inl (zlr _)),((p31.modI m34 (by simp;omega)).modI m37 (by simp;omega)).modI f4 hb⟩
      simp only [zaV,c1,zob,k4,e5,c6,zal,List.getElem?_toArray,zgs,zgz,zaa,zam,e9,zcf,c13,zab,e16,znt,c20',c29',zct,c31,e34,l34,hneg,e37,f1,f2,f3]
     ·rw [if_neg hw,zdf hw] at c31
      rw [if_neg hw] at p31
      rw [if_neg hw]
      obtain ⟨s34,e34,a34,m34,_⟩:=a31.sto (k:=1) (vs:=[.int .i64 0]) (row':=valRow ⟨t.tx,0,t.col⟩) rfl rfl
      have b34:=b31.mod m34 (by simp;omega)
      have l34:s34.ld ((st.new (.cells Z3 0)).adv n).next 1=some (.int .i64 0):=a34.ld
      obtain ⟨s37,e37,a37,m37,_⟩:=a34.sto (k:=1) (vs:=[.int .i64 0]) (row':=valRow ⟨t.tx,0,t.col⟩) rfl rfl
      have b37:=b34.mod m37 (by simp;omega)
      obtain ⟨s39,f1,f2,f3,f4,_⟩:=zbY (n:=3) b37 rfl a37 rfl rfl
      have hneg:IntKind.wrap .i64 (0-0)=0:=by decide
      refine ⟨⟨t.tx,0,t.col⟩,s39,zaU _ st ?_,((M31.thenI m34 (.inl (by simp;omega))).thenI m37 (.inl (by simp;omega))).thenI f4 (.inl (zlr _)),((p31.modI m34 (by simp;omega)).modI m37 (by simp;omega)).modI f4 hb⟩
      simp only [zaV,c1,zob,k4,e5,c6,zal,List.getElem?_toArray,zgs,zgz,zaa,zam,e9,zcf,c13,zab,e16,znt,c20',c29',zct,c31,e34,l34,hneg,e37,f1,f2,f3]
    ·rw [if_neg hm] at p29
     have hm':zaB s [45]=false:=Bool.eq_false_iff.2 hm
     rw [hm'] at c29'
     rw [if_neg hm]
     obtain ⟨s42,f1,f2,f3,f4,_⟩:=zbY (n:=3) b29 rfl a29 rfl rfl
     refine ⟨s42,zaU _ st ?_,M29.thenI f4 (.inl (zlr _)),p29.modI f4 hb⟩
     simp only [zaV,c1,zob,k4,e5,c6,zal,List.getElem?_toArray,zgs,zgz,zaa,zam,e9,zcf,c13,zab,e16,znt,c20',c29',f1,f2,f3]
  ·rw [if_neg h1,zdf h1] at c13
   rw [if_neg h1] at p13
   rw [if_neg h1]
   obtain ⟨s16,e16,a16,m16,_⟩:=a13.sto (k:=0) (vs:=[.string (mkS [])]) (row':=valRow ⟨[],0,t.col⟩) rfl rfl
   have b16:=b13.mod m16 (by simp;omega)
   obtain ⟨s18,f1,f2,f3,f4,_⟩:=zbY (n:=3) b16 rfl a16 rfl rfl
   refine ⟨⟨[],0,t.col⟩,s18,zaU _ st ?_,(M13.thenI m16 (.inl (by simp;omega))).thenI f4 (.inl (zlr _)),(p13.modI m16 (by simp;omega)).modI f4 hb⟩
   simp only [zaV,c1,zob,k4,e5,c6,zal,List.getElem?_toArray,zgs,zgz,zaa,zam,e9,zcf,c13,zab,e16,znf,zct,f1,f2,f3]
theorem zml (p:Pr):(prRow p).length=5:=rfl
theorem zpr (p:Val):(valRow p).length=3:=rfl
theorem zqA [Sym] (p:Pr) (f:List UInt8) (q:Nat) (st:SS) (hq:st.mem.get q=some (.cells [.string (mkS f)] 0)) (hlt:q<st.next):∃ n,st.next≤n∧cc 113 [.agg (prRow p).toArray,ptr q 0] st=some (.bool (decide (p.fd=f)),st.adv n):=by
 refine ⟨st.next+1,by omega,zqz _ _ st ?_⟩
 have l0:((st.ro st.next).new (.cells (prRow p) 0)).ld st.next 0=some (.string (mkS p.fd)):=by
  have hm:((st.ro st.next).new (.cells (prRow p) 0)).mem.get st.next=some (.cells (prRow p) 0):=SS.new_get (st:=st.ro st.next)
  rw [SS.ld_cells hm];rfl
 have l1:((st.ro st.next).new (.cells (prRow p) 0)).ld q 0=some (.string (mkS f)):=by
  rw [SS.ld_cells (c:=[.string (mkS f)]) (z:=0) (by rw [SS.new_old (by simp;omega)];exact hq)];rfl
 simp only [zqw,zaC,SS.ro_next,l0,zob,zab,zaf,l1,zeh]
 rfl
theorem zqB [Sym] (ps:List Pr) (hsz:ps.length≤1099511627776) (f:List UInt8) (q:Nat) (v:Value) (st0:SS) (hv:Rd st0 v (rowsF prRow ps) 5 ps.length) (hq:st0.mem.get q=some (.cells [.string (mkS f)] 0)) (hlt:q<st0.next):
  ∀ (k j:Nat) (st:SS),ps.length=k+j→Ext st0 st→∃ e vs st',zey 2 [v,.func (.func 113) #[] #[ptr q 0],.int .i64 ps.length,.int .i64 j] st=some (e,vs,st')∧Ext st0 st'∧
   ((e=0∧vs=[]∧f∉(ps.drop j).map (·.fd))∨(e=1∧f∈(ps.drop j).map (·.fd)∧∃ m:Nat,vs=[.int .i64 m])):=by
 intro k
 induction k with
 | zero=>
   intro j st hk he
   refine ⟨0,[],st,zfl v q _ _ st ?_,he,.inl ⟨rfl,rfl,?_⟩⟩
   ·have:¬ (j:Int)<(ps.length:Int):=by omega
    simp only [zfJ,zdf this,zcf]
   ·rw [List.drop_of_length_le (by omega)];simp
 | succ k ih=>
   intro j st hk he
   obtain ⟨p,hp⟩:∃ p,ps[j]?=some p:=⟨_,zge (by omega)⟩
   have hjl:(j:Int)<(ps.length:Int):=by omega
   obtain ⟨x,b1,b2,_⟩:=(hv.ext he).load (j:=(j:Int)) (by omega) hjl (zbm zml ps j p hp) rfl
   obtain ⟨n,hn,c1⟩:=zqA p f q st (he.get hlt hq) (zll hlt he.next)
   have b2':st.ldN x.1 x.2 5=some (.agg (prRow p).toArray):=b2
   have hd:=drop_cons hp
   have hw:=zbf (i:=j) (by omega)
   by_cases hf:p.fd=f
   ·refine ⟨1,[.int .i64 j],st.adv n,zfl v q _ _ st ?_,he.adv (by have:=he.next;omega),.inr ⟨rfl,?_,j,rfl⟩⟩
    ·rw [zdt hf] at c1
     simp only [zfJ,zdt hjl,zct,b1,zob,b2',c1,zam]
    ·rw [hd];simp [hf]
   ·obtain ⟨e,vs,st',d1,d2,d3⟩:=ih (j+1) (st.adv n) (by omega) (he.adv (by have:=he.next;omega))
    rw [zdf hf] at c1
    refine ⟨e,vs,st',zfl v q _ _ st ?_,d2,?_⟩
    ·simp only [zfJ,zdt hjl,zct,b1,zob,b2',c1,zam,zcf,hw]
     exact d1
    ·rw [hd]
     rcases d3 with ⟨e1,e2,e3⟩ | ⟨e1,e2,e3⟩
     ·exact .inl ⟨e1,e2,by simp only [List.map_cons,List.mem_cons,not_or];exact ⟨fun x=>hf x.symm,e3⟩⟩
     ·exact .inr ⟨e1,by simp only [List.map_cons,List.mem_cons];exact .inr e2,e3⟩
theorem zsU [Sym] (ps:List Pr) (hsz:ps.length≤1099511627776) (f:List UInt8) (q:Nat) (v:Value) (st:SS) (hv:Rd st v (rowsF prRow ps) 5 ps.length) (hq:st.mem.get q=some (.cells [.string (mkS f)] 0)) (hlt:q<st.next):
  ∃ n,st.next≤n∧cc 112 [v,.func (.func 113) #[] #[ptr q 0]] st=some (.bool (decide (f∈ps.map (·.fd))),st.adv n):=by
 obtain ⟨e,vs,st',d1,d2,d3⟩:=zqB ps hsz f q v ((st.ro st.next).ro (st.ro st.next).next) hv hq hlt ps.length 0 ((st.ro st.next).ro (st.ro st.next).next) (by omega) (.refl _)
 have d1':zey 2 [v,.func (.func 113) #[] #[ptr q 0],.int .i64 ps.length,.int .i64 0] ((st.ro st.next).ro (st.ro st.next).next)=some (e,vs,st'):=d1
 have hlen:(lenV v).bind (asI .i64)=some (ps.length:Int):=by rw [hv.len];rfl
 rw [List.drop_zero] at d3
 have hnx:=d2.next
 simp at hnx
 refine ⟨st'.next,hnx,zoc _ _ st ?_⟩
 rcases d3 with ⟨rfl,rfl,e3⟩ | ⟨rfl,e2,m,rfl⟩
 ·have c:cc 133 [v,.func (.func 113) #[] #[ptr q 0]] (st.ro st.next)=some (.int .i64 (-1),(st.ro st.next).adv st'.next):=by
   refine zk3 _ _ _ ?_
   have hb0:Nat.beq 0 0=true:=rfl
   simp only [zlG,hlen,zob,d1',hb0,zct]
  have h0:¬ (0:Int)≤ -1:=by omega
  rw [zdf e3]
  simp only [zkc,c,zob,zaa,zdf h0]
  rfl
 ·have c:cc 133 [v,.func (.func 113) #[] #[ptr q 0]] (st.ro st.next)=some (.int .i64 m,(st.ro st.next).adv st'.next):=by
   refine zk3 _ _ _ ?_
   have hb0:Nat.beq 1 0=false:=rfl
   simp only [zlG,hlen,zob,d1',hb0,zcf,zgz,zaa]
  have h0:(0:Int)≤(m:Int):=by omega
  rw [zdt e2]
  simp only [zkc,c,zob,zaa,zdt h0]
  rfl
end Go.Proofs.YtifploedaacedaaGreatDoorE
namespace Go.Proofs.YtifploedaacedaaGreatDoorE
open Go Go.E Go.Proofs
theorem PAt.keepB {S:List Nat} {st st':SS} {b i B:Nat} {v:Value} {us:List (Nat×Tok)} (h:PAt st b v us i) (k:Keep B S st st') (hB:b<B) (hS:∀ j,j∈S→b<j):PAt st' b v us i:=by
 refine ⟨h.blk.keepB k hB (fun hm=>by have:=hS b hm;omega),?_,h.vb,h.sz,k.ll h.ll⟩
 obtain ⟨h1,h2⟩:=h.rd
 refine ⟨h1,h2.imp id ?_⟩
 rintro ⟨j,cap,e,⟨z',hm⟩,hj⟩
 have hjb:=h.vb j 0 _ cap e
 exact ⟨j,cap,e,⟨z',(k.keep j (by omega) (fun hx=>by have:=hS j hx;omega)).trans hm⟩,zll hj k.next⟩
def PairR (B b lb:Nat) (w0 w1 w2 w3 pv v:Value) (us:List (Nat×Tok)) (i:Nat) (ps:List Pr) (st:SS) (r:Option (Value×SS)):Except Nat (Pr×Nat)→Prop
 | .ok (p,n)=>∃ st' pv',r=some (.bool true,st')∧Keep B [b,lb] st st'∧PAt st' b v us (i+n)∧At st' lb [w0,w1,w2,w3,pv']∧Own B st' pv' (rowsF prRow (ps++[p])) 5 (ps++[p]).length
 | .error o=>∃ st',r=some (.bool false,st')∧Keep B [b,lb] st st'∧PAt st' b v us (i+o)∧At st' lb [w0,w1,w2,w3,pv]∧Own B st' pv (rowsF prRow ps) 5 ps.length
theorem zsV [Sym] {st:SS} {b i ln lb B:Nat} {v w0 w1 w2 w3 pv:Value} {us:List (Nat×Tok)} {l:List Tok} {ps:List Pr} (h:PAt st b v us i) (hl:LineAt us i ln l)
  (ha:At st lb [w0,w1,w2,w3,pv]) (hbl:b<lb) (hlB:lb<B) (hB:B≤st.next) (hps:ps.length≤1099511627776/8) (ho:Own B st pv (rowsF prRow ps) 5 ps.length):
  PairR B b lb w0 w1 w2 w3 pv v us i ps st (cc 95 [ptr b 0,ptr lb 0] st) (pairT (ps.map (·.fd)) l):=by
 obtain ⟨t,r,rfl⟩:=hl.lin.ne
 have hisz:=LineAt.sz h hl
 have hb:=h.blk.lt
 have hlim:st.lim≤B:=by have:=ha.2.2;omega
 obtain ⟨n1,hn1,c1⟩:=zbZ h.has hl.head
 obtain ⟨s4,e4,a4,x4,_⟩:=zkU (st:=st.adv n1) (zlt h.ll hn1) (r:=[.string ⟨#[]⟩,.int .i64 0,.string ⟨#[]⟩,.int .i64 0,.int .i64 0]) (row:=prRow ⟨[],t.col,⟨[],0,0⟩⟩) rfl rfl
 have x04:Ext st s4:=(Ext.advR st hn1).trans x4
 obtain ⟨n2,hn2,c2⟩:=zbZ (h.ext x04).has hl.head
 obtain ⟨s8,e8,a8,x8,_⟩:=zkU (st:=s4.adv n2) (zlt (x04.ll h.ll) hn2) (r:=[.string ⟨#[]⟩]) (row:=[.string (mkS t.tx)]) rfl rfl
 have x08:Ext st s8:=x04.trans ((Ext.advR s4 hn2).trans x8)
 have a48:=(a4.adv hn2).ext x8
 obtain ⟨n3,hn3,c3⟩:=zbZ (h.ext x08).has hl.head
 have x03:Ext st (s8.adv n3):=x08.trans (.advR s8 hn3)
 have p3:=h.ext x03
 have la:=ha.ext x03
 have l4:(s8.adv n3).ld lb 4=some pv:=la.ld
 have k0:=(zb8 (ln:=ln) (t:=t)).1
 have k1:=(zb8 (ln:=ln) (t:=t)).2.1
 have k4:=(zb8 (ln:=ln) (t:=t)).2.2.2
 have e4':((st.adv n1).new (.cells [.string ⟨#[]⟩,.int .i64 0,.string ⟨#[]⟩,.int .i64 0,.int .i64 0] 0)).st (st.adv n1).next 0 [.string ⟨#[]⟩,.int .i64 t.col,.string ⟨#[]⟩,.int .i64 0,.int .i64 0]=some s4:=e4
 rw [zh2]
 by_cases h1:t.kd=1
 case neg=>
  have h1':¬ (t.kd:Int)=1:=by omega
  rw [if_neg (fun x=>h1 x.1)]
  refine ⟨s8.adv n3,zbt _ _ st ?_,x03.keepB hB,p3,la,ho.ext x03⟩
  simp only [zbs,c1,zob,k4,e4',c2,k1,e8,c3,k0,zdf h1',znf,zct]
 have h1':(t.kd:Int)=1:=by omega
 obtain ⟨m,hm,c5⟩:=zsU ps (by omega) t.tx (s4.adv n2).next pv (s8.adv n3) (ho.ext x03).rd (a8.adv hn3).mem (a8.adv hn3).lt
 have x05:Ext st ((s8.adv n3).adv m):=x03.trans (.advR _ hm)
 by_cases hk:t.tx∈ps.map (·.fd)
 ·rw [if_neg (fun x=>x.2 hk)]
  rw [zdt hk] at c5
  refine ⟨(s8.adv n3).adv m,zbt _ _ st ?_,x05.keepB hB,h.ext x05,ha.ext x05,ho.ext x05⟩
  simp only [zbs,c1,zob,k4,e4',c2,k1,e8,c3,k0,zdt h1',znt,zcf,zbj,zaf,Nat.zero_add,l4,c5,zam,zct]
 rw [if_pos ⟨h1,hk⟩]
 rw [zdf hk] at c5
 have hl1:=hl.tail (by omega)
 obtain ⟨e,u,rfl⟩:=hl1.lin.ne
 have q8:=(a8.adv hn3).adv hm
 have l16:((s8.adv n3).adv m).ld (s4.adv n2).next 0=some (.string (mkS t.tx)):=q8.ld
 obtain ⟨s17,e17,a17,m17,_⟩:=((a48.adv hn3).adv hm).sto (k:=0) (vs:=[.string (mkS t.tx)]) (row':=prRow ⟨t.tx,t.col,⟨[],0,0⟩⟩) rfl rfl
 have hj1:B≤(st.adv n1).next:=zlt hB hn1
 have p17:=(h.ext x05).modI m17 (by omega)
 have la17:=(ha.ext x05).mod m17 (by simp;omega)
 have o17:=(ho.ext x05)
 have K17:Keep B [b,lb] st s17:=(x05.keepB hB).thenI m17 (zlt hB x05.next) (.inl hj1)
 have o17:Own B s17 pv (rowsF prRow ps) 5 ps.length:=by
  refine (ho.ext x05).mod m17 (fun j k l' q hv hm'=>?_)
  have hj:j=(st.adv n1).next:=by simpa using hm'
  obtain ⟨_,⟨ev,_⟩ | ⟨i',ev,_,_,_,hi'⟩⟩:=ho
  ·rw [ev] at hv;cases hv
  ·rw [ev] at hv;cases hv
   have:st.next≤(st.adv n1).next:=hn1
   omega
 have l17:s17.ld b 1=some (.int .i64 i):=p17.blk.ld
 obtain ⟨s24,e24,p24,m24,_⟩:=p17.move (i+1)
 have la24:=la17.mod m24 (by simp;omega)
 have a24:=a17.mod m24 (by simp;omega)
 have nx17:B≤s17.next:=zlt hB K17.next
 have K24:=K17.thenI m24 nx17 (.inr (by simp))
 have o24:=o17.modLt m24 (by simp;omega)
 have hw:=zbf hisz
 obtain ⟨s25,c25,m25,p25⟩:=zh6 p24 hl1.head [61]
 have c25':cc 92 [ptr b 0,.string ⟨#[61]⟩] s24=some (.bool (zaB e [61]),s25):=c25
 have la25:=la24.mod m25 (by simp;omega)
 have a25:=a24.mod m25 (by simp;omega)
 have nx24:B≤s24.next:=zlt hB K24.next
 have K25:=K24.thenI m25 nx24 (.inr (by simp))
 have o25:=o24.modLt m25 (by simp;omega)
 simp only
 by_cases he:zaB e [61]=true
 case neg=>
  have he':zaB e [61]=false:=Bool.eq_false_iff.2 he
  rw [he'] at c25'
  rw [if_neg he] at p25
  rw [if_neg he]
  refine ⟨s25,zbt _ _ st ?_,K25,p25,la25,o25⟩
  simp only [zbs,c1,zob,k4,e4',c2,k1,e8,c3,k0,zdt h1',znt,zcf,zbj,zaf,Nat.zero_add,l4,c5,zam,l16,zab,e17,l17,zaa,hw,e24,c25',znf,zct]
 rw [he] at c25'
 rw [if_pos he] at p25
 rw [if_pos he]
 have hl2:=hl1.tail (by have:=zcw he;omega)
 have nx25:B≤s25.next:=zlt hB K25.next
 have hval:=zny p25 hl2
 cases hx:zdy u with
 | error o=>
   rw [hx] at hval
   obtain ⟨w,s27,c27,m27,p27⟩:=hval
   have la27:=la25.mod m27 (by simp;omega)
   have a27:=a25.mod m27 (by simp;omega)
   have K27:=K25.thenI m27 nx25 (.inr (by simp))
   have o27:=o25.modLt m27 (by simp;omega)
   obtain ⟨s30,e30,a30,m30,_⟩:=a27.stV (k:=2) (n:=3) (zaC (valRow w)) rfl rfl (row':=prRow ⟨t.tx,t.col,w⟩) rfl
   have la30:=la27.mod m30 (by simp;omega)
   have nx27:B≤s27.next:=zlt hB K27.next
   have K30:=K27.thenI m30 nx27 (.inl hj1)
   have p30:=p27.modI m30 (by omega)
   have o30:Own B s30 pv (rowsF prRow ps) 5 ps.length:=by
    refine o27.mod m30 (fun j k l' q hv hm'=>?_)
    have hj:j=(st.adv n1).next:=by simpa using hm'
    obtain ⟨_,⟨ev,_⟩ | ⟨i',ev,_,_,_,hi'⟩⟩:=ho
    ·rw [ev] at hv;cases hv
    ·rw [ev] at hv;cases hv
     have:st.next≤(st.adv n1).next:=hn1
     omega
   refine ⟨s30,zbt _ _ st ?_,K30,by have e':i+1+1+o=i+(2+o):=by omega
                                    rw [← e'];exact p30,la30,o30⟩
   simp only [zbs,c1,zob,k4,e4',c2,k1,e8,c3,k0,zdt h1',znt,zcf,zbj,zaf,Nat.zero_add,l4,c5,zam,l16,zab,e17,l17,zaa,hw,e24,c25',c27,zal,List.getElem?_toArray,zgs,zgz,e30,znf,zct]
 | ok y=>
   obtain ⟨x,n⟩:=y
   rw [hx] at hval
   obtain ⟨s27,c27,m27,p27⟩:=hval
   have la27:=la25.mod m27 (by simp;omega)
   have a27:=a25.mod m27 (by simp;omega)
   have K27:=K25.thenI m27 nx25 (.inr (by simp))
   have o27:=o25.modLt m27 (by simp;omega)
   obtain ⟨s30,e30,a30,m30,_⟩:=a27.stV (k:=2) (n:=3) (zaC (valRow x)) rfl rfl (row':=prRow ⟨t.tx,t.col,x⟩) rfl
   have la30:=la27.mod m30 (by simp;omega)
   have nx27:B≤s27.next:=zlt hB K27.next
   have K30:=K27.thenI m30 nx27 (.inl hj1)
   have p30:=p27.modI m30 (by omega)
   have o30:Own B s30 pv (rowsF prRow ps) 5 ps.length:=by
    refine o27.mod m30 (fun j k l' q hv hm'=>?_)
    have hj:j=(st.adv n1).next:=by simpa using hm'
    obtain ⟨_,⟨ev,_⟩ | ⟨i',ev,_,_,_,hi'⟩⟩:=ho
    ·rw [ev] at hv;cases hv
    ·rw [ev] at hv;cases hv
     have:st.next≤(st.adv n1).next:=hn1
     omega
   have l33:s30.ld lb 4=some pv:=la30.ld
   have l34:s30.ldN (st.adv n1).next 0 5=some (.agg (prRow ⟨t.tx,t.col,x⟩).toArray):=a30.ldN rfl
   have hc35:zaP (.agg (prRow ⟨t.tx,t.col,x⟩).toArray) 5=some (prRow ⟨t.tx,t.col,x⟩):=zkS rfl
   have nx30:B≤s30.next:=zlt hB K30.next
   obtain ⟨pv',s37,g1,g2,g3⟩:=o30.pushK nx30 (by rw [K30.lim];exact hlim) (row:=prRow ⟨t.tx,t.col,x⟩) rfl (by omega) rfl (bt:=56) (by omega) (by omega)
   have la37:=la30.keepB (g3 []) hlB (by simp)
   have p37:=p30.keepB (g3 []) (by omega) (by simp)
   have K37:=K30.then (g3 _)
   obtain ⟨s40,e40,a40,m40,_⟩:=la37.stV (k:=4) (n:=1) g2.cell.1 rfl (by simp [g2.cell.2]) (row':=[w0,w1,w2,w3,pv']) rfl
   have nx37:B≤s37.next:=zlt hB K37.next
   have K40:=K37.thenI m40 nx37 (.inr (by simp))
   have p40:=p37.modI m40 hbl
   have o40:=g2.modLt m40 (by simp;omega)
   refine ⟨s40,pv',zbt _ _ st ?_,K40,by have e':i+1+1+n=i+(2+n):=by omega
                                        rw [← e'];exact p40,a40,?_⟩
   ·simp only [zbs,c1,zob,k4,e4',c2,k1,e8,c3,k0,zdt h1',znt,zcf,zbj,zaf,Nat.zero_add,l4,c5,zam,l16,zab,e17,l17,zaa,hw,e24,c25',c27,zal,List.getElem?_toArray,zgs,zgz,e30,l33,l34,hc35,List.append_nil,g1,e40]
   ·rw [zbR,zcN,List.length_append];exact o40
end Go.Proofs.YtifploedaacedaaGreatDoorE
namespace Go.Proofs.YtifploedaacedaaGreatDoorE
open Go Go.E Go.Proofs
theorem LineAt.go {us:List (Nat×Tok)} {i ln n:Nat} {l:List Tok} (h:LineAt us i ln l) (hn:Lin (l.drop n)):LineAt us (i+n) ln (l.drop n):=by
 have hlt:n<l.length:=by
  obtain ⟨t,r,e⟩:=hn.ne
  have:=congrArg List.length e
  simp at this
  omega
 refine ⟨?_,hn,fun t ht=>h.ok t (List.mem_of_mem_drop ht)⟩
 obtain ⟨rest,hr⟩:=h.drop
 refine ⟨rest,?_⟩
 rw [← List.drop_drop,hr,List.drop_append_of_le_length (by simp;omega),List.map_drop]
theorem zlH {S:List Nat} {B:Nat} {st st':SS} {pv:Value} {c:List Value} {z n j:Nat} (ho:Own B st pv c z n) (m:Mod [j] st st') (hj:j<B∨st.next≤j):Own B st' pv c z n:=by
 refine ho.mod m (fun k k' l' q hv hm'=>?_)
 have hk:k=j:=by simpa using hm'
 obtain ⟨_,⟨ev,_⟩ | ⟨i',ev,_,_,hbi,hi'⟩⟩:=ho
 ·rw [ev] at hv;cases hv
 ·rw [ev] at hv;cases hv;omega
def znz (B b lb j2:Nat) (w0 w1 w2 w3 v:Value) (us:List (Nat×Tok)) (i e:Nat) (ps:List Pr) (st:SS) (r:Option (Nat×List Value×SS)):Except Nat (List Pr)→Prop
 | .ok qs=>∃ st' pv',r=some (0,[ptr j2 0,ptr lb 0],st')∧Keep B [b,lb] st st'∧PAt st' b v us e∧At st' lb [w0,w1,w2,w3,pv']∧Own B st' pv' (rowsF prRow (ps++qs)) 5 (ps++qs).length
 | .error o=>∃ st' row,r=some (1,[ptr j2 0,.bool false],st')∧Keep B [b,lb,j2] st st'∧PAt st' b v us (i+o)∧At st' j2 row∧row.length=5∧row.all one=true
theorem zps [Sym] {ln lb B b j2:Nat} {v w0 w1 w2 w3:Value} {us:List (Nat×Tok)} (hbj:b<j2) (hjl:j2<lb) (hlB:lb<B) (hw:one w0=true∧one w1=true∧one w2=true∧one w3=true):∀ (k i:Nat) (l:List Tok) (ps:List Pr) (pv:Value) (st:SS),l.length≤k→ps.length+k≤1099511627776/8→PAt st b v us i→LineAt us i ln l→
  At st lb [w0,w1,w2,w3,pv]→(∃ r2,At st j2 r2∧r2.length=5)→B≤st.next→Own B st pv (rowsF prRow ps) 5 ps.length→
  znz B b lb j2 w0 w1 w2 w3 v us i (i+(l.length-1)) ps st (zay 17 [ptr b 0,ptr j2 0,ptr lb 0] st) (za9 k (ps.map (·.fd)) l):=by
 intro k
 induction k with
 | zero=>
   intro i l ps pv st hk _ h hl
   obtain ⟨t,r,rfl⟩:=hl.lin.ne
   simp at hk
 | succ k ih=>
   intro i l ps pv st hk hps h hl ha hj2 hB ho
   obtain ⟨t,r,rfl⟩:=hl.lin.ne
   obtain ⟨n1,hn1,c1⟩:=zbZ h.has hl.head
   have k0:=(zb8 (ln:=ln) (t:=t)).1
   have x1:Ext st (st.adv n1):=.advR st hn1
   unfold za9
   by_cases h0:t.kd=0
   ·rw [if_pos h0]
    have hr:=hl.lin.last h0
    subst hr
    have h0':(t.kd:Int)=0:=by omega
    refine ⟨st.adv n1,pv,zb3 _ _ _ st ?_,x1.keepB hB,by simpa using h.ext x1,ha.ext x1,by simpa using ho.ext x1⟩
    simp only [zbO,c1,zob,k0,zdt h0',znt,zcf]
   ·rw [if_neg h0]
    have h0':¬ (t.kd:Int)=0:=by omega
    have hp:=zsV (h.ext x1) hl (ha.ext x1) (by omega) hlB (zlt hB hn1) (by omega) (ho.ext x1)
    have hlin:=zmk (seen:=ps.map (·.fd)) hl.lin
    cases hx:pairT (ps.map (·.fd)) (t::r) with
    | error o=>
      rw [hx] at hp
      obtain ⟨s3,c3,K3,p3,a3,o3⟩:=hp
      have K3':Keep B [b,lb] st s3:=(x1.keepB hB).then K3
      obtain ⟨r2,a2,l2⟩:=hj2
      have a23:=a2.keepB K3' (by omega) (by simp;omega)
      obtain ⟨s8,f1,f2,f3,f4,f5⟩:=zbY (n:=5) a23 l2 a3 rfl (by simp [hw,o3.cell.2])
      have nx3:B≤s3.next:=zlt hB K3'.next
      refine ⟨s8,[w0,w1,w2,w3,pv],zb3 _ _ _ st ?_,(K3'.mono (zlr _) (fun j hj _=>by simp at hj ⊢;omega)).thenI f4 nx3 (.inr (by simp)),p3.modI f4 hbj,f5,rfl,by simp [hw,o3.cell.2]⟩
      simp only [zbO,c1,zob,k0,zdf h0',znf,zct,c3,zam,zaf,f1,f2]
    | ok y=>
      obtain ⟨p,n⟩:=y
      rw [hx] at hp hlin
      obtain ⟨s3,pv',c3,K3,p3,a3,o3⟩:=hp
      simp only at hlin
      have K3':Keep B [b,lb] st s3:=(x1.keepB hB).then K3
      have hnl:n<(t::r).length:=by
       obtain ⟨t',r',e⟩:=hlin.1.ne
       have:=congrArg List.length e
       simp at this ⊢
       omega
      have hj23:∃ r2,At s3 j2 r2∧r2.length=5:=by
       obtain ⟨r2,a2,l2⟩:=hj2
       exact ⟨r2,a2.keepB K3' (by omega) (by simp;omega),l2⟩
      have next:=ih (i+n) ((t::r).drop n) (ps++[p]) pv' s3 (by rw [List.length_drop];omega) (by simp;omega) p3 (hl.go hlin.1) a3 hj23 (zlt hB K3'.next) o3
      have hend:i+n+(((t::r).drop n).length-1)=i+((t::r).length-1):=by rw [List.length_drop];omega
      rw [hend,List.map_append] at next
      have step:∀ y,zay 17 [ptr b 0,ptr j2 0,ptr lb 0] s3=some y→zay 17 [ptr b 0,ptr j2 0,ptr lb 0] st=some y:=fun y hy=>by
       refine zb3 _ _ _ st ?_
       simp only [zbO,c1,zob,k0,zdf h0',znf,zct,c3,zam,znt,zcf]
       exact hy
      simp only
      have next':znz B b lb j2 w0 w1 w2 w3 v us (i+n) (i+((t::r).length-1)) (ps++[p]) s3 (zay 17 [ptr b 0,ptr j2 0,ptr lb 0] s3) (za9 k (ps.map (·.fd)++[p.fd]) ((t::r).drop n)):=next
      cases hz:za9 k (ps.map (·.fd)++[p.fd]) ((t::r).drop n) with
      | error o=>
        rw [hz] at next'
        obtain ⟨st',row,d1,d2,d3,d4,d5,d6⟩:=next'
        exact ⟨st',row,step _ d1,(K3'.mono (zlr _) (fun j hj _=>by simp at hj ⊢;omega)).then d2,by rw [Nat.add_assoc] at d3;exact d3,d4,d5,d6⟩
      | ok qs=>
        rw [hz] at next'
        obtain ⟨st',pv2,d1,d2,d3,d4,d5⟩:=next'
        exact ⟨st',pv2,step _ d1,K3'.then d2,d3,d4,by simpa using d5⟩
def ArgsR (B b lb j2:Nat) (w0 w1 w2 w4 v:Value) (us:List (Nat×Tok)) (i e:Nat) (vs:List Val) (st:SS) (r:Option (Nat×List Value×SS)):Except Nat (List Val)→Prop
 | .ok qs=>∃ st' av',r=some (0,[ptr j2 0,ptr lb 0],st')∧Keep B [b,lb] st st'∧PAt st' b v us e∧At st' lb [w0,w1,w2,av',w4]∧Own B st' av' (rowsF valRow (vs++qs)) 3 (vs++qs).length
 | .error o=>∃ st' row,r=some (1,[ptr j2 0,.bool false],st')∧Keep B [b,lb,j2] st st'∧PAt st' b v us (i+o)∧At st' j2 row∧row.length=5∧row.all one=true
theorem zqC [Sym] {ln lb B b j2:Nat} {v w0 w1 w2 w4:Value} {us:List (Nat×Tok)} (hbj:b<j2) (hjl:j2<lb) (hlB:lb<B) (hw:one w0=true∧one w1=true∧one w2=true∧one w4=true):∀ (k i:Nat) (l:List Tok) (vs:List Val) (av:Value) (st:SS),l.length≤k→vs.length+k≤1099511627776/8→PAt st b v us i→LineAt us i ln l→
  At st lb [w0,w1,w2,av,w4]→(∃ r2,At st j2 r2∧r2.length=5)→B≤st.next→Own B st av (rowsF valRow vs) 3 vs.length→
  ArgsR B b lb j2 w0 w1 w2 w4 v us i (i+(l.length-1)) vs st (zay 11 [ptr b 0,ptr j2 0,ptr lb 0] st) (zcY k l):=by
 intro k
 induction k with
 | zero=>
   intro i l vs av st hk _ h hl
   obtain ⟨t,r,rfl⟩:=hl.lin.ne
   simp at hk
 | succ k ih=>
   intro i l vs av st hk hvs h hl ha hj2 hB ho
   obtain ⟨t,r,rfl⟩:=hl.lin.ne
   obtain ⟨n1,hn1,c1⟩:=zbZ h.has hl.head
   have k0:=(zb8 (ln:=ln) (t:=t)).1
   have x1:Ext st (st.adv n1):=.advR st hn1
   have hlim:st.lim≤B:=by have:=ha.2.2;omega
   unfold zcY
   by_cases h0:t.kd=0
   ·rw [if_pos h0]
    have hr:=hl.lin.last h0
    subst hr
    have h0':(t.kd:Int)=0:=by omega
    refine ⟨st.adv n1,av,zb2 _ _ _ st ?_,x1.keepB hB,by simpa using h.ext x1,ha.ext x1,by simpa using ho.ext x1⟩
    simp only [zbN,c1,zob,k0,zdt h0',znt,zcf]
   ·rw [if_neg h0]
    have h0':¬ (t.kd:Int)=0:=by omega
    have hp:=zny (h.ext x1) hl
    have hlin:=ziU hl.lin
    have nx1:B≤(st.adv n1).next:=zlt hB hn1
    cases hx:zdy (t::r) with
    | error o=>
      rw [hx] at hp
      obtain ⟨w,s3,c3,m3,p3⟩:=hp
      have K3:Keep B [b,lb] st s3:=(x1.keepB hB).thenI m3 nx1 (.inr (by simp))
      have nx3:B≤s3.next:=zlt hB K3.next
      obtain ⟨s7,e7,a7,x7,_⟩:=za4 (st:=s3) p3.ll (r:=Z3) (zaC (valRow w)) (n:=3) rfl rfl rfl
      have K7:=K3.thenX x7 nx3
      have nx7:B≤s7.next:=zlt hB K7.next
      obtain ⟨r2,a2,l2⟩:=hj2
      have a27:=a2.keepB K7 (by omega) (by simp;omega)
      have la7:At s7 lb [w0,w1,w2,av,w4]:=(((ha.ext x1).mod m3 (by simp;omega))).ext x7
      have o7:=((ho.ext x1).modLt m3 (by simp;omega)).ext x7
      obtain ⟨s8,f1,f2,f3,f4,f5⟩:=zbY (n:=5) a27 l2 la7 rfl (by simp [hw,o7.cell.2])
      refine ⟨s8,[w0,w1,w2,av,w4],zb2 _ _ _ st ?_,(K7.mono (zlr _) (fun j hj _=>by simp at hj ⊢;omega)).thenI f4 nx7 (.inr (by simp)),(p3.ext x7).modI f4 hbj,f5,rfl,by simp [hw,o7.cell.2]⟩
      simp only [zbN,c1,zob,k0,zdf h0',znf,zct,c3,zal,List.getElem?_toArray,zgs,zgz,zam,e7,zaf,f1,f2]
    | ok y=>
      obtain ⟨x,n⟩:=y
      rw [hx] at hp hlin
      obtain ⟨s3,c3,m3,p3⟩:=hp
      simp only at hlin
      have K3:Keep B [b,lb] st s3:=(x1.keepB hB).thenI m3 nx1 (.inr (by simp))
      have nx3:B≤s3.next:=zlt hB K3.next
      obtain ⟨s7,e7,a7,x7,_⟩:=za4 (st:=s3) p3.ll (r:=Z3) (zaC (valRow x)) (n:=3) rfl rfl rfl
      have K7:=K3.thenX x7 nx3
      have nx7:B≤s7.next:=zlt hB K7.next
      have la7:At s7 lb [w0,w1,w2,av,w4]:=(((ha.ext x1).mod m3 (by simp;omega))).ext x7
      have o7:=((ho.ext x1).modLt m3 (by simp;omega)).ext x7
      have l13:s7.ld lb 3=some av:=la7.ld
      have l14:s7.ldN s3.next 0 3=some (.agg (valRow x).toArray):=a7.ldN rfl
      have hc15:zaP (.agg (valRow x).toArray) 3=some (valRow x):=zkS rfl
      obtain ⟨av',s17,g1,g2,g3⟩:=o7.pushK nx7 (by rw [K7.lim];exact hlim) (row:=valRow x) rfl (by omega) rfl (bt:=32) (by omega) (by omega)
      have la17:=la7.keepB (g3 []) hlB (by simp)
      have p17:=(p3.ext x7).keepB (g3 []) (by omega) (by simp)
      have K17:=K7.then (g3 _)
      obtain ⟨s19,e19,a19,m19,_⟩:=la17.stV (k:=3) (n:=1) g2.cell.1 rfl (by simp [g2.cell.2]) (row':=[w0,w1,w2,av',w4]) rfl
      have nx17:B≤s17.next:=zlt hB K17.next
      have K19:=K17.thenI m19 nx17 (.inr (by simp))
      have p19:=p17.modI m19 (by omega)
      have o19:=g2.modLt m19 (by simp;omega)
      have o19':Own B s19 av' (rowsF valRow (vs++[x])) 3 (vs++[x]).length:=by rw [zbR,zcN,List.length_append];exact o19
      have hnl:n<(t::r).length:=by
       obtain ⟨t',r',e⟩:=hlin.1.ne
       have:=congrArg List.length e
       simp at this ⊢
       omega
      have hj23:∃ r2,At s19 j2 r2∧r2.length=5:=by
       obtain ⟨r2,a2,l2⟩:=hj2
       exact ⟨r2,a2.keepB K19 (by omega) (by simp;omega),l2⟩
      have next:=ih (i+n) ((t::r).drop n) (vs++[x]) av' s19 (by rw [List.length_drop];omega) (by simp;omega) p19 (hl.go hlin.1) a19 hj23 (zlt hB K19.next) o19'
      have hend:i+n+(((t::r).drop n).length-1)=i+((t::r).length-1):=by rw [List.length_drop];omega
      rw [hend] at next
      have step:∀ y,zay 11 [ptr b 0,ptr j2 0,ptr lb 0] s19=some y→zay 11 [ptr b 0,ptr j2 0,ptr lb 0] st=some y:=fun y hy=>by
       refine zb2 _ _ _ st ?_
       simp only [zbN,c1,zob,k0,zdf h0',znf,zct,c3,zal,List.getElem?_toArray,zgs,zgz,zam,znt,zcf,e7,zaf,l13,l14,hc15,List.append_nil,g1,e19]
       exact hy
      simp only
      cases hz:zcY k ((t::r).drop n) with
      | error o=>
        rw [hz] at next
        obtain ⟨st',row,d1,d2,d3,d4,d5,d6⟩:=next
        exact ⟨st',row,step _ d1,(K19.mono (zlr _) (fun j hj _=>by simp at hj ⊢;omega)).then d2,by rw [Nat.add_assoc] at d3;exact d3,d4,d5,d6⟩
      | ok qs=>
        rw [hz] at next
        obtain ⟨st',pv2,d1,d2,d3,d4,d5⟩:=next
        exact ⟨st',pv2,step _ d1,K19.then d2,d3,d4,by simpa using d5⟩
noncomputable def zeU (cf:zak) (lf:zac) (p':Value) (j2 lb:Nat) (s:SS):Option (Value×SS):=
 (cf 92 [p',.string ⟨#[46]⟩] s).bind fun a=>
  ((some a.1).bind asB).bind fun b=>
  cond b (
   (cf 93 [p'] a.2).bind fun c=>
   ((zal c.1 0).bind asS).bind fun d=>
   ((zal c.1 1).bind asB).bind fun e=>
   (c.2.st lb 2 [.string d]).bind fun f=>
   cond (!e) (
    (f.ldN lb 0 5).bind fun g=>
    (f.stV j2 0 5 g).bind fun h=>
    (h.rdN j2 0 5).bind fun i=>
    some (.tuple #[i,.bool false],h)) (
    (lf 11 [p',ptr j2 0,ptr lb 0] f).bind fun j=>
    cond (Nat.beq j.1 0) (
     (j.2.1[0]?).bind fun k=>
     (j.2.1[1]?).bind fun l=>
     (addr? l).bind fun m=>
     (j.2.2.ldN m.1 m.2 5).bind fun n=>
     (addr? k).bind fun o=>
     (j.2.2.stV o.1 o.2 5 n).bind fun p=>
     (addr? k).bind fun q=>
     (p.rdN q.1 q.2 5).bind fun r=>
     some (.tuple #[r,.bool true],p)) (
     (j.2.1[0]?).bind fun t=>
     ((j.2.1[1]?).bind asB).bind fun u=>
     (addr? t).bind fun v=>
     (j.2.2.rdN v.1 v.2 5).bind fun w=>
     some (.tuple #[w,.bool u],j.2.2)))) (
   (lf 17 [p',ptr j2 0,ptr lb 0] a.2).bind fun x=>
   cond (Nat.beq x.1 0) (
    (x.2.1[0]?).bind fun y=>
    (x.2.1[1]?).bind fun z=>
    (addr? z).bind fun A=>
    (x.2.2.ldN A.1 A.2 5).bind fun B=>
    (addr? y).bind fun C=>
    (x.2.2.stV C.1 C.2 5 B).bind fun D=>
    (addr? y).bind fun E=>
    (D.rdN E.1 E.2 5).bind fun F=>
    some (.tuple #[F,.bool true],D)) (
    (x.2.1[0]?).bind fun G=>
    ((x.2.1[1]?).bind asB).bind fun H=>
    (addr? G).bind fun I=>
    (x.2.2.rdN I.1 I.2 5).bind fun J=>
    some (.tuple #[J,.bool H],x.2.2)))
def zlI (ln:Nat) (x:PLine) (av pv:Value):Value:=.agg #[.int .i64 ln,.string (mkS x.lab),.string (mkS x.dir),av,pv]
def zgc (B b:Nat) (v:Value) (us:List (Nat×Tok)) (i e ln:Nat) (st:SS) (r:Option (Value×SS)):Except Nat PLine→Prop
 | .ok x=>∃ st' av pv,r=some (.tuple #[zlI ln x av pv,.bool true],st')∧Keep B [b] st st'∧PAt st' b v us e∧Own B st' av (rowsF valRow x.args) 3 x.args.length∧Own B st' pv (rowsF prRow x.prs) 5 x.prs.length
 | .error o=>∃ (st':SS) (row:List Value),r=some (.tuple #[.agg row.toArray,.bool false],st')∧Keep B [b] st st'∧PAt st' b v us (i+o)∧row.length=5∧row.all one=true
theorem zoz [Sym] {ln lb b j2 i B:Nat} {v:Value} {us:List (Nat×Tok)} {l:List Tok} {lab:List UInt8} {s:SS} (hBj:B≤j2) (hbB:b<B) (hjl:j2<lb) (hls:lb<s.next) (hsz:l.length≤1099511627776/8) (h:PAt s b v us i) (hl:LineAt us i ln l)
  (ha:At s lb [.int .i64 ln,.string (mkS lab),.string ⟨#[]⟩,.slice none 0 0,.slice none 0 0]) (hj2:∃ r2,At s j2 r2∧r2.length=5):
  zgc B b v us i (i+(l.length-1)) ln s (zeU cc zay (ptr b 0) j2 lb s) (zcF lab l):=by
 obtain ⟨t,r,rfl⟩:=hl.lin.ne
 have hb0:Nat.beq 0 0=true:=rfl
 have hb1:Nat.beq 1 0=false:=rfl
 have hBs:B≤s.next:=by omega
 have hbj:b<j2:=by omega
 obtain ⟨s23,c23,m23,p23⟩:=zh6 h hl.head [46]
 have c23':cc 92 [ptr b 0,.string ⟨#[46]⟩] s=some (.bool (zaB t [46]),s23):=c23
 have a23:=ha.mod m23 (by simp;omega)
 have hj23:∃ r2,At s23 j2 r2∧r2.length=5:=by obtain ⟨r2,a,l2⟩:=hj2;exact ⟨r2,a.mod m23 (by simp;omega),l2⟩
 have K23:Keep B [b] s s23:=m23.keepB hBs
 have nx23:=m23.next
 rw [zdz]
 by_cases hs:zaB t [46]=true
 ·rw [hs] at c23'
  rw [if_pos hs] at p23
  rw [if_pos hs]
  have hl1:=hl.tail (by have:=zcw hs;omega)
  obtain ⟨d,u,rfl⟩:=hl1.lin.ne
  obtain ⟨s25,c25,m25,p25⟩:=zoy p23 hl1.head
  have a25:=a23.mod m25 (by simp;omega)
  have hj25:∃ r2,At s25 j2 r2∧r2.length=5:=by obtain ⟨r2,a,l2⟩:=hj23;exact ⟨r2,a.mod m25 (by simp;omega),l2⟩
  have K25:=K23.thenM m25 (by omega)
  have nx25:=m25.next
  simp only
  by_cases hd:d.kd=1
  ·rw [if_pos hd,zdt hd] at c25
   rw [if_pos hd] at p25
   rw [if_pos hd]
   have hl2:=hl1.tail (by omega)
   obtain ⟨s28,e28,a28,m28,n28⟩:=a25.sto (k:=2) (vs:=[.string (mkS d.tx)]) (row':=[.int .i64 ln,.string (mkS lab),.string (mkS d.tx),.slice none 0 0,.slice none 0 0]) rfl rfl
   have hj28:∃ r2,At s28 j2 r2∧r2.length=5:=by obtain ⟨r2,a,l2⟩:=hj25;exact ⟨r2,a.mod m28 (by simp;omega),l2⟩
   have p28:=p25.modI m28 (by omega)
   have K28:=K25.thenI m28 (by omega) (.inl (by omega))
   have hloop:=zqC (B:=s28.next) hbj hjl (by omega) ⟨rfl,rfl,rfl,rfl⟩ u.length (i+1+1) u [] (.slice none 0 0) s28 (zlr _) (by simp at hsz ⊢;omega) p28 hl2 a28 hj28 (zlr _) (Own.nil _ _ _)
   cases hx:zcY u.length u with
   | error o=>
     rw [hx] at hloop
     obtain ⟨s32,row,d1,d2,d3,d4,d5,d6⟩:=hloop
     have hr:=d4.rdN d5
     refine ⟨s32,row,?_,(K28.then (d2.mono (by omega) (fun j hj hlt=>by simp at hj ⊢;omega))),(by rw [show i+(2+o)=i+1+1+o by omega];exact d3),d5,d6⟩
     simp only [zeU,c23',zob,zam,zct,c25,zal,List.getElem?_toArray,zgs,zgz,zab,e28,znt,zcf,d1,hb1,zaf,hr]
   | ok vs=>
     rw [hx] at hloop
     obtain ⟨s32,av',d1,d2,d3,d4,d5⟩:=hloop
     obtain ⟨r2,a2,l2⟩:=hj28
     have a232:=a2.keepB d2 (by have:=a28.lt;omega) (by simp;omega)
     obtain ⟨s38,f1,f2,f3,f4,f5⟩:=zbY (n:=5) a232 l2 d4 rfl (by simp only [List.all_cons,List.all_nil,d5.cell.2];rfl)
     have K32:Keep B [b] s s32:=K28.then (d2.mono (by omega) (fun j hj hlt=>by simp at hj ⊢;omega))
     have nx32:=d2.next
     refine ⟨s38,av',.slice none 0 0,?_,K32.thenI f4 (by omega) (.inl hBj),?_,((zlH (S:=[]) d5 f4 (.inl (by have:=a28.lt;omega))).low (by omega)),Own.nil _ _ _⟩
     ·simp only [zeU,c23',zob,zam,zct,c25,zal,List.getElem?_toArray,zgs,zgz,zab,e28,znt,zcf,d1,hb0,zaf,f1,f2,f3]
      rfl
     ·have e':i+1+1+(u.length-1)=i+((t::d::u).length-1):=by
       obtain ⟨z1,z2,rfl⟩:=hl2.lin.ne
       simp;omega
      rw [← e'];exact d3.modI f4 hbj
  ·rw [if_neg hd,zdf hd] at c25
   rw [if_neg hd] at p25
   rw [if_neg hd]
   obtain ⟨s28,e28,a28,m28,n28⟩:=a25.sto (k:=2) (vs:=[.string (mkS [])]) (row':=[.int .i64 ln,.string (mkS lab),.string (mkS []),.slice none 0 0,.slice none 0 0]) rfl rfl
   obtain ⟨r2,a2,l2⟩:=hj25
   have a228:=a2.mod m28 (by simp;omega)
   obtain ⟨s30,f1,f2,f3,f4,f5⟩:=zbY (n:=5) a228 l2 a28 rfl rfl
   have K28:=K25.thenI m28 (by omega) (.inl (by omega))
   refine ⟨s30,[.int .i64 ln,.string (mkS lab),.string (mkS []),.slice none 0 0,.slice none 0 0],?_,K28.thenI f4 (by omega) (.inl hBj),(p25.modI m28 (by omega)).modI f4 hbj,rfl,rfl⟩
   simp only [zeU,c23',zob,zam,zct,c25,zal,List.getElem?_toArray,zgs,zgz,zab,e28,znf,f1,f2,f3]
 ·have hs':zaB t [46]=false:=Bool.eq_false_iff.2 hs
  rw [hs'] at c23'
  rw [if_neg hs] at p23
  rw [if_neg hs]
  have hloop:=zps (B:=s23.next) hbj hjl (by omega) ⟨rfl,rfl,rfl,rfl⟩ (t::r).length i (t::r) [] (.slice none 0 0) s23 (zlr _) (by simp at hsz ⊢;omega) p23 hl a23 hj23 (zlr _) (Own.nil _ _ _)
  have hloop':znz s23.next b lb j2 (.int .i64 ln) (.string (mkS lab)) (.string ⟨#[]⟩) (.slice none 0 0) v us i (i+((t::r).length-1)) [] s23 (zay 17 [ptr b 0,ptr j2 0,ptr lb 0] s23) (za9 (t::r).length [] (t::r)):=hloop
  cases hx:za9 (t::r).length [] (t::r) with
  | error o=>
    rw [hx] at hloop'
    obtain ⟨s32,row,d1,d2,d3,d4,d5,d6⟩:=hloop'
    have hr:=d4.rdN d5
    refine ⟨s32,row,?_,(K23.then (d2.mono (by omega) (fun j hj hlt=>by simp at hj ⊢;omega))),d3,d5,d6⟩
    simp only [zeU,c23',zob,zam,zcf,d1,hb1,zaf,hr,zgs,zgz]
  | ok ps=>
    rw [hx] at hloop'
    obtain ⟨s32,pv',d1,d2,d3,d4,d5⟩:=hloop'
    obtain ⟨r2,a2,l2⟩:=hj23
    have a232:=a2.keepB d2 (by have:=a23.lt;omega) (by simp;omega)
    obtain ⟨s38,f1,f2,f3,f4,f5⟩:=zbY (n:=5) a232 l2 d4 rfl (by simp only [List.all_cons,List.all_nil,d5.cell.2];rfl)
    have K32:Keep B [b] s s32:=K23.then (d2.mono (by omega) (fun j hj hlt=>by simp at hj ⊢;omega))
    have nx32:=d2.next
    refine ⟨s38,.slice none 0 0,pv',?_,K32.thenI f4 (by omega) (.inl hBj),d3.modI f4 hbj,Own.nil _ _ _,((zlH (S:=[]) d5 f4 (.inl (by have:=a23.lt;omega))).low (by omega))⟩
    simp only [zeU,c23',zob,zam,zcf,d1,hb0,zct,zaf,f1,f2,f3,zgs,zgz]
    rfl
end Go.Proofs.YtifploedaacedaaGreatDoorE
namespace Go.Proofs.YtifploedaacedaaGreatDoorE
open Go Go.E Go.Proofs
theorem zgc.to {B b i e ln:Nat} {v:Value} {us:List (Nat×Tok)} {st s:SS} {r r':Option (Value×SS)} {x:Except Nat PLine} (h:zgc B b v us i e ln s r x) (K:Keep B [b] st s) (hr:∀ y,r=some y→r'=some y):zgc B b v us i e ln st r' x:=by
 cases x with
 | ok x=>obtain ⟨st',av,pv,a,k,c⟩:=h;exact ⟨st',av,pv,hr _ a,K.then k,c⟩
 | error o=>obtain ⟨st',row,a,k,c⟩:=h;exact ⟨st',row,hr _ a,K.then k,c⟩
def offE (d:Nat):Except Nat PLine→Except Nat PLine
 | .error o=>.error (d+o)
 | .ok x=>.ok x
theorem zgc.off {B b i d e ln:Nat} {v:Value} {us:List (Nat×Tok)} {s:SS} {r:Option (Value×SS)} {x:Except Nat PLine} (h:zgc B b v us (i+d) e ln s r x):zgc B b v us i e ln s r (offE d x):=by
 cases x with
 | ok x=>exact h
 | error o=>obtain ⟨st',row,a,k,c,dd⟩:=h;exact ⟨st',row,a,k,by rw [← Nat.add_assoc];exact c,dd⟩
abbrev L5:List Value:=[.int .i64 0,.string ⟨#[]⟩,.string ⟨#[]⟩,.slice none 0 0,.slice none 0 0]
theorem ziW (t:Tok):zaB t [58]=(decide ((t.kd:Int)=3)&&decide (t.tx=[58])):=by
 unfold zaB
 congr 1
 by_cases h:t.kd=3
 ·have:(t.kd:Int)=3:=by omega
  rw [zdt h,zdt this]
 ·have:¬ (t.kd:Int)=3:=by omega
  rw [zdf h,zdf this]
theorem zrQ [Sym] {st:SS} {ln b i:Nat} {v:Value} {us:List (Nat×Tok)} {l:List Tok} (hsz:l.length≤1099511627776/8) (h:PAt st b v us i) (hl:LineAt us i ln l):
  zgc st.next b v us i (i+(l.length-1)) ln st (cc 68 [ptr b 0] st) (readT l):=by
 obtain ⟨t,r,rfl⟩:=hl.lin.ne
 have hisz:=LineAt.sz h hl
 have hb:=h.blk.lt
 have a1:At (st.new (.cells L5 0)) st.next L5:=At.new h.ll L5
 have x1:Ext st (st.new (.cells L5 0)):=(Ext.refl st).new _
 obtain ⟨n1,hn1,c1⟩:=zbZ (h.ext x1).has hl.head
 have hn1':st.next+1≤n1:=hn1
 obtain ⟨s5,e5,a5,x5,_⟩:=zkU (st:=(st.new (.cells L5 0)).adv n1) (zlt h.ll (by simp;omega)) (r:=L5) (row:=[.int .i64 ln,.string (mkS []),.string ⟨#[]⟩,.slice none 0 0,.slice none 0 0]) rfl rfl
 have e5':(((st.new (.cells L5 0)).adv n1).new (.cells L5 0)).st ((st.new (.cells L5 0)).adv n1).next 0 [.int .i64 ln,.string ⟨#[]⟩,.string ⟨#[]⟩,.slice none 0 0,.slice none 0 0]=some s5:=e5
 have x05:Ext st s5:=x1.trans ((Ext.advR _ hn1).trans x5)
 have b5:=(a1.adv hn1).ext x5
 have p5:=h.ext x05
 have k3:=(zb8 (ln:=ln) (t:=t)).2.2.1
 have k0:=(zb8 (ln:=ln) (t:=t)).1
 have k1:=(zb8 (ln:=ln) (t:=t)).2.1
 obtain ⟨u,hu,hread⟩:∃ u,us[if t.kd=0 then i else i+1]?=some (ln,u)∧((t.kd=1∧zaB u [58]=true∧∃ r',r=u::r')∨(¬ (t.kd=1∧zaB u [58]=true)∧readT (t::r)=zcF [] (t::r))):=by
  by_cases h0:t.kd=0
  ·have hr:=hl.lin.last h0
   subst hr
   exact ⟨t,by rw [if_pos h0];exact hl.head,.inr ⟨fun x=>by omega,rfl⟩⟩
  ·have hl1:=hl.tail h0
   obtain ⟨u,r',rfl⟩:=hl1.lin.ne
   refine ⟨u,by rw [if_neg h0];exact hl1.head,?_⟩
   by_cases hc:t.kd=1∧zaB u [58]=true
   ·exact .inl ⟨hc.1,hc.2,r',rfl⟩
   ·exact .inr ⟨hc,by rw [zgB,if_neg hc]⟩
 obtain ⟨n2,hn2,c2⟩:=zsR p5.has hl.head hu
 obtain ⟨s8,e8,a8,x8,_⟩:=za4 (st:=s5.adv n2) (zlt (x05.ll h.ll) hn2) (r:=Z5) (zaC (zaR ln u)) (n:=5) rfl rfl rfl
 have x08:Ext st s8:=x05.trans ((Ext.advR _ hn2).trans x8)
 obtain ⟨n3,hn3,c3⟩:=zbZ (h.ext x08).has hl.head
 have x58:Ext s5 (s8.adv n3):=((Ext.advR _ hn2).trans x8).trans (.advR _ hn3)
 have x09:Ext st (s8.adv n3):=x05.trans x58
 have p9:=h.ext x09
 have a9:=a5.ext x58
 have b9:=b5.ext x58
 have q9:=a8.ext (Ext.advR _ hn3)
 have l0:(s8.adv n3).ld (s5.adv n2).next 0=some (.int .i64 u.kd):=q9.ld
 have l1:(s8.adv n3).ld (s5.adv n2).next 1=some (.string (mkS u.tx)):=q9.ld
 have hlb:st.next<((st.new (.cells L5 0)).adv n1).next:=by simp;omega
 rcases hread with ⟨hk,hc,r',rfl⟩ | ⟨hc,hread⟩
 ·
  have hoff:readT (t::u::r')=offE 2 (zcF t.tx r'):=by
   rw [zgB,if_pos ⟨hk,hc⟩]
   cases zcF t.tx r'<;>rfl
  rw [hoff]
  rw [ziW,zae,decide_eq_true_eq,decide_eq_true_eq] at hc
  have hk':(t.kd:Int)=1:=by omega
  have hl2:=(hl.tail (by omega)).tail (by omega)
  obtain ⟨n4,hn4,c4⟩:=zbZ p9.has hl.head
  have x010:Ext st ((s8.adv n3).adv n4):=x09.trans (.advR _ hn4)
  obtain ⟨s15,e15,a15,m15,_⟩:=(a9.adv hn4).sto (k:=1) (vs:=[.string (mkS t.tx)]) (row':=[.int .i64 ln,.string (mkS t.tx),.string ⟨#[]⟩,.slice none 0 0,.slice none 0 0]) rfl rfl
  have p15:=(h.ext x010).modI m15 (by omega)
  have b15:=(b9.adv hn4).mod m15 (by simp;omega)
  have M15:Mod [b] st s15:=(Mod.ofExt x010).thenI m15 (.inl (by omega))
  have l18:s15.ld b 1=some (.int .i64 i):=p15.blk.ld
  have hw:IntKind.wrap .i64 ((i:Int)+2)=((i+2:Nat):Int):=wrapI hisz (k:=2) (by omega)
  obtain ⟨s22,e22,p22,m22,n22⟩:=p15.move (i+2)
  have a22:=a15.mod m22 (by simp;omega)
  have b22:=b15.mod m22 (by simp;omega)
  have M22:=M15.then m22
  have ht:=zoz (B:=st.next) (zlr _) hb hlb a22.lt (by simp at hsz ⊢;omega) p22 hl2 a22 ⟨_,b22,rfl⟩
  have hend:i+2+(r'.length-1)=i+((t::u::r').length-1):=by
   obtain ⟨z1,z2,rfl⟩:=hl2.lin.ne
   simp;omega
  rw [hend] at ht
  refine zgc.to (zgc.off (d:=2) ht) (M22.keepB (zlr _)) fun y hy=>?_
  refine zeg _ st ?_
  have hq:eqT (mkS u.tx) ⟨#[58]⟩=true:=by
   have:eqT (mkS u.tx) (mkS [58])=decide (u.tx=[58]):=zeh _ _
   rw [zdt hc.2] at this;exact this
  simp only [zbT,c1,zob,k3,e5',c2,e8,c3,k0,zdt hk',zct,l0,l1,zaa,zab,zdt hc.1,hq,c4,k1,e15,zbj,zaf,Nat.zero_add,l18,hw,e22]
  exact hy
 ·rw [hread]
  have ht:=zoz (B:=st.next) (s:=s8.adv n3) (zlr _) hb hlb a9.lt hsz p9 hl a9 ⟨_,b9,rfl⟩
  refine zgc.to ht (x09.keepB (zlr _)) fun y hy=>?_
  refine zeg _ st ?_
  by_cases hk:t.kd=1
  ·have hk':(t.kd:Int)=1:=by omega
   by_cases h3:(u.kd:Int)=3
   ·have hx:¬ u.tx=[58]:=fun e=>hc ⟨hk,by rw [ziW,zdt h3,zdt e];rfl⟩
    have hq:eqT (mkS u.tx) ⟨#[58]⟩=false:=by
     have:eqT (mkS u.tx) (mkS [58])=decide (u.tx=[58]):=zeh _ _
     rw [zdf hx] at this;exact this
    simp only [zbT,c1,zob,k3,e5',c2,e8,c3,k0,zdt hk',zct,l0,l1,zaa,zab,zdt h3,hq,zcf]
    exact hy
   ·simp only [zbT,c1,zob,k3,e5',c2,e8,c3,k0,zdt hk',zct,l0,zaa,zdf h3,zcf]
    exact hy
  ·have hk':¬ (t.kd:Int)=1:=by omega
   simp only [zbT,c1,zob,k3,e5',c2,e8,c3,k0,zdf hk',zcf]
   exact hy
theorem zqD {lab:List UInt8} {l:List Tok} {x:PLine} (h:zcF lab l=.ok x):x.lab=lab:=by
 cases l with
 | nil=>cases h
 | cons t r=>
   rw [zdz] at h
   repeat' (split at h)
   all_goals first
    | (cases h;done)
    | (cases h;rfl)
theorem zrR {k:Nat} {seen:List (List UInt8)} {t:Tok} {r:List Tok} {ps:List Pr} (hk:t.kd≠0) (h:za9 (k+1) seen (t::r)=.ok ps):ps≠[]:=by
 unfold za9 at h
 rw [if_neg hk] at h
 cases hx:pairT seen (t::r) with
 | error o=>rw [hx] at h;cases h
 | ok y=>
   obtain ⟨p,n⟩:=y
   rw [hx] at h
   simp only at h
   cases hz:za9 k (seen++[p.fd]) ((t::r).drop n) with
   | error o=>rw [hz] at h;cases h
   | ok qs=>rw [hz] at h;cases h;simp
theorem zqE {l:List Tok} {x:PLine} (hl:Lin l) (hok:∀ t∈l,TokOk t) (h:readT l=.ok x):(x.lab≠[]∨x.dir≠[]∨x.prs≠[])↔1<l.length:=by
 obtain ⟨t,r,rfl⟩:=hl.ne
 cases r with
 | nil=>
   have h0:t.kd=0:=by
    rcases hl with h | h
    ·exact h.1
    ·exact h.2.elim
   have hs:zaB t [46]=false:=by simp [zaB,h0]
   have h':zcF [] [t]=.ok x:=h
   rw [zdz,hs] at h'
   have e:za9 [t].length [] [t]=.ok []:=by
    show za9 1 [] [t]=_
    unfold za9
    rw [if_pos h0]
   rw [e] at h'
   cases h'
   simp
 | cons s r=>
   have hk:t.kd≠0:=by
    rcases hl with h | h
    ·exact absurd h.2 (by simp)
    ·exact h.1
   refine ⟨fun _=>by simp,fun _=>?_⟩
   rw [zgB] at h
   split at h
   ·rename_i hc
    cases hx:zcF t.tx r with
    | error o=>rw [hx] at h;cases h
    | ok y=>
      rw [hx] at h;cases h
      left
      rw [zqD hx]
      exact (hok t (List.mem_cons_self ..)).tx hc.1
   ·rw [zdz] at h
    split at h
    ·rename_i hs
     have hl1:=hl.tail hk
     simp only at h
     split at h
     ·rename_i hd
      split at h
      ·cases h
      ·cases h
       exact .inr (.inl ((hok s (by simp)).tx hd))
     ·cases h
    ·split at h
     ·cases h
     ·rename_i ps hp
      cases h
      exact .inr (.inr (zrR hk hp))
end Go.Proofs.YtifploedaacedaaGreatDoorE
namespace Go.Proofs.YtifploedaacedaaGreatDoorE
open Go Go.E Go.Proofs
def RdB (st:SS) (lo hi:Nat) (v:Value) (c:List Value) (z n:Nat):Prop:=Rd st v c z n∧∀ j k l q,v=.slice (some ⟨j,k,none⟩) l q→lo<j∧j<hi
theorem Own.rdB {B lo hi:Nat} {st:SS} {v:Value} {c:List Value} {z n:Nat} (h:Own B st v c z n) (hlo:lo<B) (hhi:st.next≤hi):RdB st lo hi v c z n:=by
 refine ⟨h.rd,fun j k l q hv=>?_⟩
 obtain ⟨_,⟨ev,_⟩ | ⟨i',ev,_,_,hbi,hi'⟩⟩:=h
 ·rw [ev] at hv;cases hv
 ·rw [ev] at hv;cases hv;omega
theorem RdB.go {st st':SS} {lo hi hi':Nat} {v:Value} {c:List Value} {z n:Nat} (h:RdB st lo hi v c z n) (hh:hi≤hi') (hn:st.next≤st'.next) (hk:∀ j,j<st.next→lo<j→j<hi→st'.mem.get j=st.mem.get j):RdB st' lo hi' v c z n:=by
 obtain ⟨⟨h1,h2⟩,h3⟩:=h
 refine ⟨⟨h1,h2.imp id ?_⟩,fun j k l q hv=>by have:=h3 j k l q hv;omega⟩
 rintro ⟨i,cap,e,⟨z',hm⟩,hi⟩
 have:=h3 i 0 n cap e
 exact ⟨i,cap,e,⟨z',(hk i hi this.1 this.2).trans hm⟩,zll hi hn⟩
abbrev Item:=PLine×Value×Value
def lnRow (x:Item):List Value:=[.int .i64 x.1.ln,.string (mkS x.1.lab),.string (mkS x.1.dir),x.2.1,x.2.2]
theorem zqF (x:Item):(lnRow x).length=5:=rfl
def ItB (st:SS) (lo hi:Nat) (x:Item):Prop:=RdB st lo hi x.2.1 (rowsF valRow x.1.args) 3 x.1.args.length∧RdB st lo hi x.2.2 (rowsF prRow x.1.prs) 5 x.1.prs.length
structure Coll (st:SS) (lo m B:Nat) (v:Value) (its:List Item):Prop where
 own:Own B st v (rowsF lnRow its) 5 its.length
 blk:∀ j k l q,v=.slice (some ⟨j,k,none⟩) l q→m≤j
 it:∀ x∈its,ItB st lo m x
 lo:lo<B
 le:m≤st.next
def ziX (st:SS) (v:Value) (xs:List PLine):Prop:=∃ its:List Item,its.map (·.1)=xs∧Rd st v (rowsF lnRow its) 5 its.length∧
 ∀ x∈its,Rd st x.2.1 (rowsF valRow x.1.args) 3 x.1.args.length∧Rd st x.2.2 (rowsF prRow x.1.prs) 5 x.1.prs.length
theorem ziX.ext {st st':SS} {v:Value} {xs:List PLine} (h:ziX st v xs) (x:Ext st st'):ziX st' v xs:=by
 obtain ⟨its,a,b,c⟩:=h
 exact ⟨its,a,b.ext x,fun y hy=>⟨(c y hy).1.ext x,(c y hy).2.ext x⟩⟩
theorem Coll.lines {st:SS} {lo m B:Nat} {v:Value} {its:List Item} (h:Coll st lo m B v its):ziX st v (its.map (·.1)):=⟨its,rfl,h.own.rd,fun x hx=>⟨(h.it x hx).1.1,(h.it x hx).2.1⟩⟩
theorem Coll.keep {st st':SS} {lo m B:Nat} {v:Value} {its:List Item} (h:Coll st lo m B v its) (k:Keep st.next [lo] st st'):Coll st' lo m B v its:=by
 refine ⟨?_,h.blk,fun x hx=>?_,h.lo,zlt h.le k.next⟩
 ·obtain ⟨h1,h2⟩:=h.own
  refine ⟨h1,h2.imp id ?_⟩
  rintro ⟨i,e,h0,hm,hb,hi⟩
  exact ⟨i,e,h0,(k.keep i hi (by have:=h.lo;simp;omega)).trans hm,hb,zll hi k.next⟩
 ·obtain ⟨h1,h2⟩:=h.it x hx
  exact ⟨h1.go (zlr _) k.next fun j hj h1 h2=>k.keep j hj (by simp;omega),h2.go (zlr _) k.next fun j hj h1 h2=>k.keep j hj (by simp;omega)⟩
theorem Coll.ext {st st':SS} {lo m B:Nat} {v:Value} {its:List Item} (h:Coll st lo m B v its) (x:Ext st st'):Coll st' lo m B v its:=h.keep (x.keepB (zlr _))
theorem Coll.push {st:SS} {lo m B:Nat} {v:Value} {its:List Item} (h:Coll st lo m B v its) (x:Item) (hB:B≤st.next) (hl:st.lim≤B) (hn:its.length≤1099511627776/8)
  (ho1:one x.2.1=true) (ho2:one x.2.2=true) (h1:RdB st lo st.next x.2.1 (rowsF valRow x.1.args) 3 x.1.args.length) (h2:RdB st lo st.next x.2.2 (rowsF prRow x.1.prs) 5 x.1.prs.length)
  (hne1:∀ j k l q k' l' q',v=.slice (some ⟨j,k,none⟩) l q→x.2.1≠.slice (some ⟨j,k',none⟩) l' q') (hne2:∀ j k l q k' l' q',v=.slice (some ⟨j,k,none⟩) l q→x.2.2≠.slice (some ⟨j,k',none⟩) l' q'):
  ∃ v' st',(st.new (.cells (lnRow x) 5)).app 5 88 v (.slice (some ⟨st.next,0,none⟩) 1 1)=some (v',st')∧Coll st' lo st.next B v' (its++[x])∧∀ S,Keep B S st st':=by
 obtain ⟨k,st',g1,gk,g2,g3,g4,g5⟩:=h.own.pushN hB hl (zqF x) (by omega) (by simp only [lnRow,List.all_cons,List.all_nil,ho1,ho2];rfl) (bt:=88) (by omega) (by omega)
 have kept:∀ j,j<st.next→(∀ k l q,v≠.slice (some ⟨j,k,none⟩) l q)→st'.mem.get j=st.mem.get j:=fun j hj hv=>g5 j hj fun q=>hv 0 q q
 refine ⟨_,st',g1,⟨?_,?_,?_,h.lo,g4⟩,fun S=>⟨g4,g3,fun j hj _=>kept j (by omega) fun k l q hv=>?_⟩⟩
 ·rw [zbR,zcN,List.length_append];exact g2
 ·intro j k' l q hv;cases hv;exact gk
 ·intro y hy
  rcases List.mem_append.1 hy with hy | hy
  ·obtain ⟨i1,i2⟩:=h.it y hy
   exact ⟨i1.go h.le g4 fun j hj _ hjm=>kept j hj fun k l q hv=>by have:=h.blk j k l q hv;omega,i2.go h.le g4 fun j hj _ hjm=>kept j hj fun k l q hv=>by have:=h.blk j k l q hv;omega⟩
  ·have:y=x:=by simpa using hy
   subst this
   refine ⟨?_,?_⟩
   ·obtain ⟨⟨c1,c2⟩,c3⟩:=h1
    refine ⟨⟨c1,c2.imp id ?_⟩,c3⟩
    rintro ⟨i,cap,e,⟨z',hm⟩,hi⟩
    exact ⟨i,cap,e,⟨z',(kept i hi fun k l q hv=>hne1 i k l q 0 _ cap hv e).trans hm⟩,zll hi g4⟩
   ·obtain ⟨⟨c1,c2⟩,c3⟩:=h2
    refine ⟨⟨c1,c2.imp id ?_⟩,c3⟩
    rintro ⟨i,cap,e,⟨z',hm⟩,hi⟩
    exact ⟨i,cap,e,⟨z',(kept i hi fun k l q hv=>hne2 i k l q 0 _ cap hv e).trans hm⟩,zll hi g4⟩
 ·obtain ⟨_,⟨ev,_⟩ | ⟨i',ev,_,_,hbi,hi'⟩⟩:=h.own
  ·rw [ev] at hv;cases hv
  ·rw [ev] at hv;cases hv;omega
theorem zqG (k:Nat) (ts:List Tok) (r:List (List Tok)):flat k (ts::r)=ts.map (fun t=>(k+1,t))++flat (k+1) r:=rfl
theorem zqH {us:List (Nat×Tok)} {i k:Nat} {ts:List Tok} {r:List (List Tok)} (h:us.drop i=flat k (ts::r)):us.drop (i+ts.length)=flat (k+1) r:=by
 rw [← List.drop_drop,h,zqG]
 rw [List.drop_append_of_le_length (by simp),List.drop_of_length_le (by simp),List.nil_append]
def zk4 (B lo b0:Nat) (st:SS) (its:List Item) (r:Option (Nat×List Value×SS)):Except (Nat×Nat) (List PLine)→Prop
 | .ok xs=>∃ v st' m its',r=some (0,[ptr b0 0,v],st')∧Keep B [lo] st st'∧its'.map (·.1)=its.map (·.1)++xs∧Coll st' lo m B v its'
 | .error e=>∃ st',r=some (1,[.slice none 0 0,ptr b0 0,.int .i64 4],st')∧Keep B [lo,b0] st st'∧At st' b0 [.int .i64 e.1,.int .i64 e.2]
theorem zk4.to {B lo b0:Nat} {st s:SS} {its its':List Item} {x:PLine} {c:Bool} {r r':Option (Nat×List Value×SS)} {y:Except (Nat×Nat) (List PLine)} (h:zk4 B lo b0 s its' r y) (K:Keep B [lo] st s) (hr:∀ z,r=some z→r'=some z) (hi:its'.map (·.1)=its.map (·.1)++(if c=true then [x] else [])):
  zk4 B lo b0 st its r' (match y with
   | .error e=>.error e
   | .ok xs=>.ok (if c=true then x::xs else xs)):=by
 cases y with
 | error e=>
   obtain ⟨st',a,k,d⟩:=h
   exact ⟨st',hr _ a,(K.mono (zlr _) (fun j hj _=>by simp at hj ⊢;omega)).then k,d⟩
 | ok xs=>
   obtain ⟨v,st',m,its2,a,k,d,e⟩:=h
   refine ⟨v,st',m,its2,hr _ a,K.then k,?_,e⟩
   rw [d,hi]
   cases c<;>simp
theorem zpt [Sym] {lo b0 B:Nat} {v:Value} {us:List (Nat×Tok)} (hb0:b0<lo) (hloB:lo<B) (hus:us.length≤1099511627776/64):∀ (tss:List (List Tok)) (i k m:Nat) (out:Value) (its:List Item) (st:SS),us.drop i=flat k tss→i≤us.length→(∀ ts∈tss,Lin ts∧∀ t∈ts,TokOk t)→
  PAt st lo v us i→Coll st lo m B out its→(∃ r,At st b0 r∧r.length=2)→B≤st.next→its.length≤i→
  zk4 B lo b0 st its (zbn 6 [ptr b0 0,v,ptr lo 0,out] st) (zcJ k tss):=by
 intro tss
 induction tss with
 | nil=>
   intro i k m out its st hd hi hok h hc ha hB hn
   have hil:i=us.length:=by
    have:us.drop i=[]:=hd
    rw [List.drop_eq_nil_iff] at this;omega
   have hlv:(lenV v).bind (asI .i64)=some (us.length:Int):=by rw [h.rd.len];rfl
   have l1:st.ld lo 1=some (.int .i64 i):=h.blk.ld
   have hlt:¬ (i:Int)<(us.length:Int):=by omega
   refine ⟨out,st,m,its,zcx _ v _ out st ?_,.refl _,by simp,hc⟩
   simp only [zbC,zbj,zaf,zob,Nat.zero_add,l1,zaa,hlv,zdf hlt,zcf]
 | cons ts r ih=>
   intro i k m out its st hd hi hok h hc ha hB hn
   obtain ⟨hlin,htok⟩:=hok ts (List.mem_cons_self ..)
   have hl:LineAt us i (k+1) ts:=⟨⟨flat (k+1) r,hd⟩,hlin,htok⟩
   have hlen:i+ts.length≤us.length:=by
    have:=congrArg List.length hd
    unfold flat at this
    simp at this
    omega
   have hpos:0<ts.length:=by obtain ⟨t,u,rfl⟩:=hlin.ne;simp
   have hlt:(i:Int)<(us.length:Int):=by omega
   have hlv:(lenV v).bind (asI .i64)=some (us.length:Int):=by rw [h.rd.len];rfl
   have l1:st.ld lo 1=some (.int .i64 i):=h.blk.ld
   have hline:=zrQ (by omega) h hl
   have hlim:st.lim≤B:=by have:=h.blk.2.2;omega
   unfold zcJ
   cases hx:readT ts with
   | error o=>
     rw [hx] at hline
     obtain ⟨s5,row,c5,K5,p5,hrow,hrow1⟩:=hline
     have hoff:=zqv ts hlin o hx
     obtain ⟨t,ht⟩:∃ t,ts[o]?=some t:=⟨_,zge hoff⟩
     have hu:us[i+o]?=some (k+1,t):=by
      obtain ⟨rest,hr⟩:=hl.drop
      have:=congrArg (·[o]?) hr
      simp only [List.getElem?_drop] at this
      rw [this,List.getElem?_append_left (by simp;omega),List.getElem?_map,ht]
      rfl
     obtain ⟨s9,e9,a9,x9,_⟩:=za4 (st:=s5) p5.ll (r:=L5) (zaC row) (n:=5) hrow hrow1 rfl
     have p9:=p5.ext x9
     obtain ⟨n1,hn1,c1⟩:=zbZ p9.has hu
     have x1:Ext s9 (s9.adv n1):=.advR _ hn1
     obtain ⟨n2,hn2,c2⟩:=zbZ (p9.ext x1).has hu
     have x2:Ext s9 ((s9.adv n1).adv n2):=x1.trans (.advR _ hn2)
     obtain ⟨ra,aa,hra⟩:=ha
     have aa2:=((aa.keepB K5 aa.lt (by simp;omega)).ext x9).ext x2
     obtain ⟨s15,e15,a15,m15,_⟩:=aa2.sto (k:=0) (vs:=[.int .i64 ((k+1:Nat):Int),.int .i64 t.col]) (row':=[.int .i64 ((k+1:Nat):Int),.int .i64 t.col]) rfl (by rw [zbr (by simp;omega)];simp [hra])
     have k3:=(zb8 (ln:=k+1) (t:=t)).2.2.1
     have k4:=(zb8 (ln:=k+1) (t:=t)).2.2.2
     have hcol:zpm ts o=t.col:=by unfold zpm;rw [ht];rfl
     have K5':Keep B [lo,b0] st s5:=K5.mono hB (fun j hj _=>by simp at hj ⊢;omega)
     have nx5:B≤s5.next:=zlt hB K5'.next
     have nx9:B≤s9.next:=zlt nx5 x9.next
     refine ⟨s15,zcx _ v _ out st ?_,((K5'.thenX x9 nx5).thenX x2 nx9).thenI m15 (zlt nx9 x2.next) (.inr (by simp)),by rw [hcol];exact a15⟩
     simp only [zbC,zbj,zaf,zob,Nat.zero_add,l1,zaa,hlv,zdt hlt,zct,c5,zal,List.getElem?_toArray,zgs,zgz,zam,e9,znf,c1,k3,c2,k4,e15]
   | ok x=>
     rw [hx] at hline
     obtain ⟨s5,av,pv,c5,K5,p5,o1,o2⟩:=hline
     have hkept:=zqE hlin htok hx
     obtain ⟨s9,e9,a9,x9,_⟩:=za4 (st:=s5) p5.ll (r:=L5) (zaC [.int .i64 ((k+1:Nat):Int),.string (mkS x.lab),.string (mkS x.dir),av,pv]) (n:=5) rfl (by simp only [List.all_cons,List.all_nil,o1.cell.2,o2.cell.2];rfl) rfl
     have e9':(s5.new (.cells L5 0)).stV s5.next 0 5 (zlI (k+1) x av pv)=some s9:=e9
     have p9:=p5.ext x9
     have hend:i+(ts.length-1)+1=i+ts.length:=by omega
     have l18:s9.ld lo 1=some (.int .i64 ((i+(ts.length-1):Nat):Int)):=p9.blk.ld
     have hw:IntKind.wrap .i64 (((i+(ts.length-1):Nat):Int)+1)=((i+ts.length:Nat):Int):=by rw [zbf (by omega),hend]
     obtain ⟨s22,e22,p22,m22,n22⟩:=p9.move (i+ts.length)
     have hlo5:lo<s5.next:=p5.blk.lt
     have a22:=a9.mod m22 (by simp;omega)
     have K9:Keep st.next [lo] st s9:=K5.thenX x9 K5.next
     have K22:Keep st.next [lo] st s22:=K9.thenI m22 (zlt K5.next x9.next) (.inr (by simp))
     have hc22:=hc.keep K22
     have nx22:B≤s22.next:=zlt hB K22.next
     have ha22:∃ r,At s22 b0 r∧r.length=2:=by
      obtain ⟨ra,aa,hra⟩:=ha
      exact ⟨ra,aa.keepB K22 aa.lt (by simp;omega),hra⟩
     have hd':=zqH hd
     have hok':∀ ts∈r,Lin ts∧∀ t∈ts,TokOk t:=fun q hq=>hok q (List.mem_cons_of_mem _ hq)
     have l23:s22.ld s5.next 1=some (.string (mkS x.lab)):=a22.ld
     have l28:s22.ld s5.next 2=some (.string (mkS x.dir)):=a22.ld
     have l33:s22.ld s5.next 4=some pv:=a22.ld
     have hq1:eqT (mkS x.lab) ⟨#[]⟩=decide (x.lab=[]):=zdx _
     have hq2:eqT (mkS x.dir) ⟨#[]⟩=decide (x.dir=[]):=zdx _
     have hlp:(lenV pv).bind (asI .i64)=some (x.prs.length:Int):=by rw [o2.len];rfl
     by_cases hkp:1<ts.length
     ·
      have w1:RdB s22 lo s22.next av (rowsF valRow x.args) 3 x.args.length:=by
       refine (Own.rdB o1 (lo:=lo) (hi:=s5.next) h.blk.lt (zlr _)).go (by have:=x9.next;omega) (by have:=x9.next;omega) fun j hj h1 _=>?_
       rw [m22.keep j (by have:=x9.next;omega) (by simp;omega),x9.keep j hj]
      have w2:RdB s22 lo s22.next pv (rowsF prRow x.prs) 5 x.prs.length:=by
       refine (Own.rdB o2 (lo:=lo) (hi:=s5.next) h.blk.lt (zlr _)).go (by have:=x9.next;omega) (by have:=x9.next;omega) fun j hj h1 _=>?_
       rw [m22.keep j (by have:=x9.next;omega) (by simp;omega),x9.keep j hj]
      have hnew:∀ w:Value,(∀ j k l q,w=.slice (some ⟨j,k,none⟩) l q→st.next≤j)→∀ j k l q k' l' q',out=.slice (some ⟨j,k,none⟩) l q→w≠.slice (some ⟨j,k',none⟩) l' q':=by
       intro w hw j k l q k' l' q' ho he
       have h1:=hw j k' l' q' he
       obtain ⟨_,⟨ev,_⟩ | ⟨i',ev,_,_,hbi,hi'⟩⟩:=hc.own
       ·rw [ev] at ho;cases ho
       ·rw [ev] at ho;cases ho;omega
      have hown:∀ {w:Value} {c:List Value} {z n:Nat},Own st.next s5 w c z n→∀ j k l q,w=.slice (some ⟨j,k,none⟩) l q→st.next≤j:=by
       intro w c z n ho j k l q hv
       obtain ⟨_,⟨ev,_⟩ | ⟨i',ev,_,_,hbi,hi'⟩⟩:=ho
       ·rw [ev] at hv;cases hv
       ·rw [ev] at hv;cases hv;exact hbi
      obtain ⟨out',s27,g1,g2,g3⟩:=hc22.push ({ x with ln:=k+1 },av,pv) nx22 (by rw [K22.lim];exact hlim) (by omega) o1.cell.2 o2.cell.2 w1 w2 (hnew av (hown o1)) (hnew pv (hown o2))
      have g1':(s22.new (.cells ([.int .i64 ((k+1:Nat):Int),.string (mkS x.lab),.string (mkS x.dir),av,pv]++[]) 5)).app 5 88 out (.slice (some ⟨s22.next,0,none⟩) 1 1)=some (out',s27):=g1
      have K27:Keep B [lo] st s27:=(K22.mono hB (fun _ hj _=>hj)).then (g3 _)
      have ha27:∃ r,At s27 b0 r∧r.length=2:=by
       obtain ⟨ra,aa,hra⟩:=ha22
       exact ⟨ra,aa.keepB (g3 []) (by omega) (by simp),hra⟩
      have next:=ih (i+ts.length) (k+1) s22.next out' (its++[({ x with ln:=k+1 },av,pv)]) s27 hd' (by omega) hok' (p22.keepB (g3 []) hloB (by simp)) g2 ha27 (zlt hB K27.next) (by simp;omega)
      have l24:s22.ldN s5.next 0 5=some (.agg [.int .i64 ((k+1:Nat):Int),.string (mkS x.lab),.string (mkS x.dir),av,pv].toArray):=a22.ldN rfl
      have hc25:zaP (.agg [.int .i64 ((k+1:Nat):Int),.string (mkS x.lab),.string (mkS x.dir),av,pv].toArray) 5=some [.int .i64 ((k+1:Nat):Int),.string (mkS x.lab),.string (mkS x.dir),av,pv]:=cells5 _ _ _ _ _
      have step:∀ z,zbn 6 [ptr b0 0,v,ptr lo 0,out'] s27=some z→zbn 6 [ptr b0 0,v,ptr lo 0,out] st=some z:=fun z hz=>by
       refine zcx _ v _ out st ?_
       by_cases h1:x.lab=[]
       ·by_cases h2:x.dir=[]
        ·have h3:x.prs≠[]:=by
          rcases hkept.2 hkp with h | h | h
          ·exact absurd h1 h
          ·exact absurd h2 h
          ·exact h
         have h4:(0:Int)<(x.prs.length:Int):=by
          have:=List.length_pos_iff.2 h3
          omega
         simp only [zbC,zbj,zaf,zob,Nat.zero_add,l1,zaa,hlv,zdt hlt,zct,c5,zal,List.getElem?_toArray,zgs,zgz,zam,e9',znt,zcf,l18,hw,e22,l23,zab,hq1,zdt h1,l28,hq2,zdt h2,l33,hlp,zdt h4,l24,hc25,g1']
         exact hz
        ·simp only [zbC,zbj,zaf,zob,Nat.zero_add,l1,zaa,hlv,zdt hlt,zct,c5,zal,List.getElem?_toArray,zgs,zgz,zam,e9',znt,zcf,l18,hw,e22,l23,zab,hq1,zdt h1,l28,hq2,zdf h2,znf,l24,hc25,g1']
         exact hz
       ·simp only [zbC,zbj,zaf,zob,Nat.zero_add,l1,zaa,hlv,zdt hlt,zct,c5,zal,List.getElem?_toArray,zgs,zgz,zam,e9',znt,zcf,l18,hw,e22,l23,zab,hq1,zdf h1,znf,l24,hc25,g1']
        exact hz
      simp only
      cases hy:zcJ (k+1) r with
      | error e=>
        rw [hy] at next
        obtain ⟨st',a,k',d⟩:=next
        exact ⟨st',step _ a,(K27.mono (zlr _) (fun j hj _=>by simp at hj ⊢;omega)).then k',d⟩
      | ok xs=>
        rw [hy] at next
        obtain ⟨v2,st',m',its2,a,k',d,e⟩:=next
        refine ⟨v2,st',m',its2,step _ a,K27.then k',?_,e⟩
        rw [d];simp [hkp]
     ·have hnone:¬ (x.lab≠[]∨x.dir≠[]∨x.prs≠[]):=fun hh=>hkp (hkept.1 hh)
      have h1:x.lab=[]:=Classical.byContradiction fun hh=>hnone (.inl hh)
      have h2:x.dir=[]:=Classical.byContradiction fun hh=>hnone (.inr (.inl hh))
      have h3:x.prs=[]:=Classical.byContradiction fun hh=>hnone (.inr (.inr hh))
      have h4:¬ (0:Int)<(x.prs.length:Int):=by rw [h3];simp
      have K22':Keep B [lo] st s22:=K22.mono hB (fun _ hj _=>hj)
      have next:=ih (i+ts.length) (k+1) m out its s22 hd' (by omega) hok' p22 hc22 ha22 nx22 (by omega)
      have step:∀ z,zbn 6 [ptr b0 0,v,ptr lo 0,out] s22=some z→zbn 6 [ptr b0 0,v,ptr lo 0,out] st=some z:=fun z hz=>by
       refine zcx _ v _ out st ?_
       simp only [zbC,zbj,zaf,zob,Nat.zero_add,l1,zaa,hlv,zdt hlt,zct,c5,zal,List.getElem?_toArray,zgs,zgz,zam,e9',znt,zcf,l18,hw,e22,l23,zab,hq1,zdt h1,l28,hq2,zdt h2,l33,hlp,zdf h4]
       exact hz
      simp only
      cases hy:zcJ (k+1) r with
      | error e=>
        rw [hy] at next
        obtain ⟨st',a,k',d⟩:=next
        exact ⟨st',step _ a,(K22'.mono (zlr _) (fun j hj _=>by simp at hj ⊢;omega)).then k',d⟩
      | ok xs=>
        rw [hy] at next
        obtain ⟨v2,st',m',its2,a,k',d,e⟩:=next
        refine ⟨v2,st',m',its2,step _ a,K22'.then k',?_,e⟩
        rw [d];simp [hkp]
theorem zqI (ps:List (List UInt8)) (i:Nat) (tss:List (List Tok)) (h:zcv i ps=.ok tss):tss.length=ps.length:=by
 induction ps generalizing i tss with
 | nil=>cases h;rfl
 | cons p r ih=>
   unfold zcv at h
   cases hx:zcq p with
   | error c=>rw [hx] at h;cases h
   | ok ts=>
     rw [hx] at h
     cases hy:zcv (i+1) r with
     | error e=>rw [hy] at h;cases h
     | ok us=>rw [hy] at h;cases h;simp [ih _ _ hy]
def ParR (st:SS) (r:Option (Value×SS)):Except (Nat×Nat) (List PLine)→Prop
 | .ok xs=>∃ v st',r=some (.tuple #[v,zbw (0,0),.int .i64 0],st')∧Ext st st'∧ziX st' v xs
 | .error e=>∃ st',r=some (.tuple #[.slice none 0 0,zbw e,.int .i64 4],st')∧Ext st st'
theorem zrS [Sym] {st:SS} (hg:Gd st) (hl:st.lim≤st.next) (s:ByteArray) (hs:s.size≤65536):ParR st (cc 42 [.string s] st) (zfH (bl s)):=by
 have a1:At (st.new (.cells [.int .i64 0,.int .i64 0] 0)) st.next [.int .i64 0,.int .i64 0]:=At.new hl _
 have x1:Ext st (st.new (.cells [.int .i64 0,.int .i64 0] 0)):=(Ext.refl st).new _
 have hlex:=lex_ok (hg.ext x1) (x1.ll hl) s (by omega)
 have hlx:lexT (bl s)=match zcv 0 (pieces 10 (bl s)) with
  | .error e=>.error e
  | .ok tss=>.ok (flat 0 tss):=zpn _ _
 unfold zfH
 have hb0:Nat.beq 0 0=true:=rfl
 have hb1:Nat.beq 1 0=false:=rfl
 cases hy:zcv 0 (pieces 10 (bl s)) with
 | error e=>
   rw [hy] at hlx
   rw [hlx] at hlex
   obtain ⟨s2,c2,x2⟩:=hlex
   have c2':cc 67 [.string s] (st.new (.cells [.int .i64 0,.int .i64 0] 0))=some (.tuple #[.slice none 0 0,zbw e,.int .i64 4],s2):=c2
   obtain ⟨s7,e7,a7,x7,_⟩:=za4 (st:=s2) ((x1.trans x2).ll hl) (r:=[.int .i64 0,.int .i64 0]) (v:=zbw e) (row:=[.int .i64 e.1,.int .i64 e.2]) (n:=2) rfl rfl rfl rfl
   have a17:=(a1.ext x2).ext x7
   obtain ⟨s9,f1,f2,f3,f4,f5⟩:=zbY (n:=2) a17 rfl a7 rfl rfl
   have h40:decide ((4:Int)=0)=false:=rfl
   refine ⟨s9,zex s st ?_,((Mod.ofExt (S:=[st.next]) ((x1.trans x2).trans x7)).then f4).fresh (by simp)⟩
   simp only [zew,c2',zob,zal,List.getElem?_toArray,zgs,zgz,zaa,e7,h40,znf,zct,f1,f2,f3]
   rfl
 | ok tss=>
   rw [hy] at hlx
   have hlen:=zrG _ _ hlx
   rw [zaG] at hlen
   have hlen2:(s.size+1)*(s.size+1)≤65537*65537:=Nat.mul_le_mul (by omega) (by omega)
   rw [hlx] at hlex
   obtain ⟨v,s2,c2,x2,o2⟩:=hlex
   have c2':cc 67 [.string s] (st.new (.cells [.int .i64 0,.int .i64 0] 0))=some (.tuple #[v,zbw (0,0),.int .i64 0],s2):=c2
   obtain ⟨s7,e7,a7,x7,_⟩:=za4 (st:=s2) ((x1.trans x2).ll hl) (r:=[.int .i64 0,.int .i64 0]) (v:=zbw (0,0)) (row:=[.int .i64 0,.int .i64 0]) (n:=2) rfl rfl rfl rfl
   have x07:=(x1.trans x2).trans x7
   have hc11:zaP v 1=some [v]:=by unfold zaP;obtain ⟨_,⟨rfl,_⟩ | ⟨i,rfl,_⟩⟩:=o2<;>rfl
   have hrow:(Value.agg ⟨spl [.slice none 0 0,.int .i64 0] 0 [v]⟩:Value).cells.toList=[v,.int .i64 0]:=by simp [spl,Value.cells]
   have ab:At (s7.new (.cells [v,.int .i64 0] 0)) s7.next [v,.int .i64 0]:=At.new (x07.ll hl) _
   have x12:Ext s7 (s7.new (.cells [v,.int .i64 0] 0)):=(Ext.refl s7).new _
   have hsn:st.next<s7.next:=by have:=x2.next;have:=x7.next;simp at*;omega
   have hp:PAt (s7.new (.cells [v,.int .i64 0] 0)) s7.next v (flat 0 tss) 0:=by
    refine ⟨ab,((o2.rd.ext x7).ext x12),fun j k l q hv=>?_,by omega,(x07.trans x12).ll hl⟩
    obtain ⟨_,⟨ev,_⟩ | ⟨i',ev,_,_,hbi,hi'⟩⟩:=o2
    ·rw [ev] at hv;cases hv
    ·rw [ev] at hv;cases hv
     have:=x7.next
     omega
   have hloop:=zpt (lo:=s7.next) (b0:=st.next) (B:=s7.next+1) hsn (by omega) (by omega) tss 0 0 s7.next (.slice none 0 0) [] (s7.new (.cells [v,.int .i64 0] 0)) (by simp) (by omega) (zrP _ _ _ hy) hp
    ⟨Own.nil _ _ _,fun j k l q hv=>(by cases hv),fun x hx=>(by cases hx),by omega,by simp⟩ ⟨_,(((a1.ext x2).ext x7).ext x12),rfl⟩ (by simp) (by simp)
   show ParR st _ (zcJ 0 tss)
   cases hz:zcJ 0 tss with
   | error e=>
     rw [hz] at hloop
     obtain ⟨s13,d1,d2,d3⟩:=hloop
     have hr:=d3.rdN (n:=2) rfl
     have x13:Ext st s13:=((Mod.ofExt (S:=[s7.next,st.next]) (x07.trans x12)).then (d2.mod (by simp))).fresh (by simp;omega)
     refine ⟨s13,zex s st ?_,x13⟩
     simp only [zew,c2',zob,zal,List.getElem?_toArray,zgs,zgz,zaa,e7,decide_true,znt,zcf,hc11,hrow,d1,hb1,zaf,hr]
     rfl
   | ok xs=>
     rw [hz] at hloop
     obtain ⟨w,s13,m,its,d1,d2,d3,d4⟩:=hloop
     have a13:=(((a1.ext x2).ext x7).ext x12).keepB d2 (by omega) (by simp;omega)
     obtain ⟨s17,e17,a17,m17,n17⟩:=a13.sto (k:=0) (vs:=[.int .i64 0,.int .i64 0]) (row':=[.int .i64 0,.int .i64 0]) rfl rfl
     have hr:=a17.rdN (n:=2) rfl
     have d4':Coll s17 s7.next m (s7.next+1) w its:=by
      refine ⟨zlH (S:=[]) d4.own m17 (.inl (by omega)),d4.blk,fun x hx=>?_,d4.lo,by rw [n17];exact d4.le⟩
      obtain ⟨i1,i2⟩:=d4.it x hx
      exact ⟨i1.go (zlr _) m17.next fun j hj h1 h2=>m17.keep j hj (by simp;omega),i2.go (zlr _) m17.next fun j hj h1 h2=>m17.keep j hj (by simp;omega)⟩
     have x17:Ext st s17:=(((Mod.ofExt (S:=[s7.next,st.next]) (x07.trans x12)).then ((d2.mod (by simp)).mono (by simp))).thenI m17 (.inr (by simp))).fresh (by simp;omega)
     refine ⟨w,s17,zex s st ?_,x17,?_⟩
     ·simp only [zew,c2',zob,zal,List.getElem?_toArray,zgs,zgz,zaa,e7,decide_true,znt,zcf,hc11,hrow,d1,hb0,zct,zaf,e17,hr]
      rfl
     ·have:=d4'.lines
      rw [d3] at this
      simpa using this
end Go.Proofs.YtifploedaacedaaGreatDoorE
namespace Go.Proofs.YtifploedaacedaaGreatDoorE
open Go Go.E Go.Proofs
structure RT (st:SS) (v:Value) (us:List (Nat×Tok)) (hi:Nat):Prop where
 rd:Rd st v (rowsL us) 5 us.length
 vb:∀ j k l q,v=.slice (some ⟨j,k,none⟩) l q→j<hi
 sz:us.length≤1099511627776/8
section
variable {S : List Nat} {st st' : SS} {v : Value} {us : List (Nat × Tok)} {hi B : Nat}
theorem RT.keepB (h:RT st v us hi) (k:Keep B S st st') (hB:hi≤B) (hS:∀ j,j∈S→hi≤j):RT st' v us hi:=by
 refine ⟨?_,h.vb,h.sz⟩
 obtain ⟨h1,h2⟩:=h.rd
 refine ⟨h1,h2.imp id ?_⟩
 rintro ⟨j,cap,e,⟨z',hm⟩,hj⟩
 have hjb:=h.vb j 0 _ cap e
 exact ⟨j,cap,e,⟨z',(k.keep j (by omega) (fun hx=>by have:=hS j hx;omega)).trans hm⟩,zll hj k.next⟩
theorem RT.ext (h:RT st v us hi) (x:Ext st st'):RT st' v us hi:=⟨h.rd.ext x,h.vb,h.sz⟩
theorem RT.at' (h:RT st v us hi) {i:Nat} {t:Nat×Tok} (ht:us[i]?=some t):∃ p,zas v (i:Int) 5=some p∧∀ s:SS,RT s v us hi→
  s.ld p.1 p.2=some (.int .i64 t.2.kd)∧s.ld p.1 (p.2+1)=some (.string (mkS t.2.tx))∧s.ld p.1 (p.2+2)=some (.int .i64 t.2.nm)∧s.ld p.1 (p.2+3)=some (.int .i64 t.1)∧s.ld p.1 (p.2+4)=some (.int .i64 t.2.col):=by
 have hlt:(i:Int)<(us.length:Int):=by have:=(List.getElem?_eq_some_iff.1 ht).1;omega
 obtain ⟨p,a1,_,_⟩:=h.rd.load (j:=(i:Int)) (by omega) hlt (zgw us i t ht) rfl
 refine ⟨p,a1,fun s hs=>?_⟩
 obtain ⟨q,b1,_,b3⟩:=hs.rd.load (j:=(i:Int)) (by omega) hlt (zgw us i t ht) rfl
 rw [a1] at b1
 cases b1
 exact ⟨b3 0 (by omega),b3 1 (by omega),b3 2 (by omega),b3 3 (by omega),b3 4 (by omega)⟩
theorem RT.len (h:RT st v us hi):(lenV v).bind (asI .i64)=some (us.length:Int):=by rw [h.rd.len];rfl
end
def RdR (B ln:Nat) (i:Nat) (st:SS) (r:Option (Value×SS)):Except Nat PLine→Prop
 | .ok x=>∃ st' av pv,r=some (.tuple #[zlI ln x av pv,.int .i64 (-1)],st')∧Keep B [] st st'∧Own B st' av (rowsF valRow x.args) 3 x.args.length∧Own B st' pv (rowsF prRow x.prs) 5 x.prs.length
 | .error o=>∃ (st':SS) (row:List Value),r=some (.tuple #[.agg row.toArray,.int .i64 ((i+o:Nat):Int)],st')∧Keep B [] st st'∧row.length=5∧row.all one=true
theorem RdR.to {B ln i:Nat} {st s:SS} {r r':Option (Value×SS)} {x:Except Nat PLine} (h:RdR B ln i s r x) (K:Keep B [] st s) (hr:∀ y,r=some y→r'=some y):RdR B ln i st r' x:=by
 cases x with
 | ok x=>obtain ⟨st',av,pv,a,k,c⟩:=h;exact ⟨st',av,pv,hr _ a,K.then k,c⟩
 | error o=>obtain ⟨st',row,a,k,c⟩:=h;exact ⟨st',row,hr _ a,K.then k,c⟩
theorem RdR.off {B ln d:Nat} {st:SS} {r:Option (Value×SS)} {x:Except Nat PLine} (h:RdR B ln d st r x):RdR B ln 0 st r (offE d x):=by
 cases x with
 | ok x=>exact h
 | error o=>obtain ⟨st',row,a,k,c⟩:=h;exact ⟨st',row,by rw [Nat.zero_add];exact a,k,c⟩
end Go.Proofs.YtifploedaacedaaGreatDoorE
namespace Go.Proofs.YtifploedaacedaaGreatDoorE
open Go Go.E Go.Proofs
theorem Keep.toExt {B:Nat} {a b:SS} (h:Keep B [] a b) (hB:a.next≤B):Ext a b:=(h.mod hB).toExt
end Go.Proofs.YtifploedaacedaaGreatDoorE
namespace Go.Proofs.YtifploedaacedaaGreatDoorE
set_option maxRecDepth 20000
open Go Go.E Go.Proofs
noncomputable def zci (cf:zak) (lf:zac) (b':Value) (name':ByteArray) (x':Int) (st:SS):Option (Value×SS):=
 (zar b').bind fun a=>
 (addr? a).bind fun b=>
 (st.ld b.1 (b.2+1)).bind fun c=>
 (st.mapF c name').bind fun d=>
 zeo d (
 cond (eqT name' ⟨#[]⟩) (
 some (.bool false,st)) (
 (zar b').bind fun e=>
 (addr? e).bind fun f=>
 (st.ld f.1 (f.2+1)).bind fun g=>
 (st.mapP g name' (.int .i64 x')).bind fun h=>
 some (.bool true,h))) (fun i=>
 ((zal (.tuple #[i,.bool true]) 0).bind (asI .i64)).bind fun j=>
 some (.bool false,st))
noncomputable abbrev zgQ:zac:=lS Tryz.prog Lk0 Tryz.f70 zaw
theorem zgR:Lk0.func 70=some (70,Tryz.f70):=by kernel_rfl
theorem zcC [Sym] (b':Value) (name':ByteArray) (x':Int) (st:SS) {r:Value×SS} (h:zci cc zgQ b' name' x' st=some r):cc 70 [b',.string name',.int .i64 x'] st=some r:=
 zad (li:=zaw) zai zaq zgR rfl (fun _=>rfl) (.trans (by kernel_rfl) h)
noncomputable def zah (cf:zak) (lf:zac) (b':Value) (l':Value) (st:SS):Option (Value×SS):=
 let a:SS:=st.new (.cells (l':Value).cells.toList 0)
 (a.ld st.next 3).bind fun b=>
 ((lenV b).bind (asI .i64)).bind fun c=>
 cond (decide (c=0)) (
 some (.bool false,a)) (
 (a.ld st.next 3).bind fun d=>
 (zas d 0 3).bind fun e=>
 (a.ldN e.1 e.2 3).bind fun f=>
 let g:SS:=a.new (.cells [.string ⟨#[]⟩,.int .i64 0,.int .i64 0] 0)
 (g.stV a.next 0 3 f).bind fun h=>
 ((h.ld a.next 0).bind asS).bind fun i=>
 ((h.ld st.next 2).bind asS).bind fun j=>
 cond (eqT j ⟨#[111,114,103]⟩) (
 cond (!(eqT i ⟨#[]⟩)) (
 some (.bool false,h)) (
 (h.ld st.next 3).bind fun k=>
 ((lenV k).bind (asI .i64)).bind fun l=>
 cond (decide (1<l)) (
 some (.bool false,h)) (
 ((h.ld a.next 1).bind (asI .i64)).bind fun m=>
 (zar b').bind fun n=>
 (addr? n).bind fun o=>
 ((h.ld o.1 o.2).bind (asI .i64)).bind fun p=>
 cond (decide (m<p)) (
 some (.bool false,h)) (
 ((h.ld a.next 1).bind (asI .i64)).bind fun q=>
 cond (decide (2048<q)) (
 some (.bool false,h)) (
 ((h.ld a.next 1).bind (asI .i64)).bind fun r=>
 (zar b').bind fun s=>
 (addr? s).bind fun t=>
 (h.st t.1 t.2 [.int .i64 r]).bind fun u=>
 some (.bool true,u)))))) (
 cond (eqT j ⟨#[97,108,105,103,110]⟩) (
 cond (!(eqT i ⟨#[]⟩)) (
 some (.bool false,h)) (
 (h.ld st.next 3).bind fun v=>
 ((lenV v).bind (asI .i64)).bind fun w=>
 cond (decide (1<w)) (
 some (.bool false,h)) (
 ((h.ld a.next 1).bind (asI .i64)).bind fun x=>
 cond (decide (x<1)) (
 some (.bool false,h)) (
 ((h.ld a.next 1).bind (asI .i64)).bind fun y=>
 cond (decide (2048<y)) (
 some (.bool false,h)) (
 (zar b').bind fun z=>
 (addr? z).bind fun A=>
 ((h.ld A.1 A.2).bind (asI .i64)).bind fun B=>
 ((h.ld a.next 1).bind (asI .i64)).bind fun C=>
 let D:Int:=IntKind.wrap .i64 (B+C)
 let E:Int:=IntKind.wrap .i64 (D-1)
 ((h.ld a.next 1).bind (asI .i64)).bind fun F=>
 ((aI .quo .i64 E F).bind (asI .i64)).bind fun G=>
 ((h.ld a.next 1).bind (asI .i64)).bind fun H=>
 let I:Int:=IntKind.wrap .i64 (G*H)
 (zar b').bind fun J=>
 (addr? J).bind fun K=>
 (h.st K.1 K.2 [.int .i64 I]).bind fun L=>
 (zar b').bind fun M=>
 (addr? M).bind fun N=>
 ((L.ld N.1 N.2).bind (asI .i64)).bind fun O=>
 some (.bool (decide (O≤2048)),L)))))) (
 cond (eqT j ⟨#[115,101,116]⟩) (
 (h.ld st.next 3).bind fun P=>
 ((lenV P).bind (asI .i64)).bind fun Q=>
 cond (decide (Q=2)) (
 cond (!(eqT i ⟨#[]⟩)) (
 ((h.ld a.next 1).bind (asI .i64)).bind fun R=>
 cond (decide (R=0)) (
 (h.ld st.next 3).bind fun S=>
 (zas S 1 3).bind fun T=>
 ((h.ld T.1 T.2).bind asS).bind fun U=>
 cond (eqT U ⟨#[]⟩) (
 ((h.ld a.next 0).bind asS).bind fun V=>
 (h.ld st.next 3).bind fun W=>
 (zas W 1 3).bind fun X=>
 ((h.ld X.1 (X.2+1)).bind (asI .i64)).bind fun Y=>
 (cf 70 [b',.string V,.int .i64 Y] h).bind fun Z=>
 ((some Z.1).bind asB).bind fun aA=>
 some (.bool aA,Z.2)) (
 some (.bool false,h))) (
 some (.bool false,h))) (
 some (.bool false,h))) (
 some (.bool false,h))) (
 cond (eqT j ⟨#[101,110,116,114,121]⟩) (
 cond (eqT i ⟨#[]⟩) (
 some (.bool false,h)) (
 (h.ld st.next 3).bind fun aB=>
 ((lenV aB).bind (asI .i64)).bind fun aC=>
 cond (decide (1<aC)) (
 some (.bool false,h)) (
 ((h.ld a.next 1).bind (asI .i64)).bind fun aD=>
 cond (!(decide (aD=0))) (
 some (.bool false,h)) (
 (zar b').bind fun aE=>
 (addr? aE).bind fun aF=>
 (h.ld aF.1 (aF.2+4)).bind fun aG=>
 (cf 96 [aG,.func (.func 97) #[] #[ptr a.next 0]] h).bind fun aH=>
 ((some aH.1).bind asB).bind fun aJ=>
 cond aJ (
 some (.bool false,aH.2)) (
 (zar b').bind fun aK=>
 (addr? aK).bind fun aL=>
 (aH.2.ld aL.1 (aL.2+4)).bind fun aM=>
 (aH.2.ldN a.next 0 3).bind fun aN=>
 (zaP aN 3).bind fun aO=>
 let aP:SS:=aH.2.new (.cells (aO++([])) 3)
 (aP.app 3 32 aM (.slice (some ⟨aH.2.next,0,none⟩) 1 1)).bind fun aQ=>
 (zar b').bind fun aR=>
 (addr? aR).bind fun aS=>
 (aQ.2.stV aS.1 (aS.2+4) 1 aQ.1).bind fun aT=>
 (zar b').bind fun aU=>
 (addr? aU).bind fun aV=>
 (aT.ld aV.1 (aV.2+3)).bind fun aW=>
 ((aT.ld st.next 0).bind (asI .i64)).bind fun aX=>
 ((aT.ld a.next 2).bind (asI .i64)).bind fun aY=>
 let aZ:SS:=aT.new (.cells ([.int .i64 aX,.int .i64 aY]) 2)
 (aZ.app 2 16 aW (.slice (some ⟨aT.next,0,none⟩) 1 1)).bind fun bA=>
 (zar b').bind fun bB=>
 (addr? bB).bind fun bC=>
 (bA.2.stV bC.1 (bC.2+3) 1 bA.1).bind fun bD=>
 some (.bool true,bD)))))) (
 some (.bool false,h))))))
noncomputable abbrev zdj:zac:=lS Tryz.prog Lk0 Tryz.f71 zaw
theorem zfK:Lk0.func 71=some (71,Tryz.f71):=by kernel_rfl
theorem zaL [Sym] (b':Value) (l':Value) (st:SS) {r:Value×SS} (h:zah cc zdj b' l' st=some r):cc 71 [b',l'] st=some r:=
 zad (li:=zaw) zai zaq zfK rfl (fun _=>rfl) (.trans (by kernel_rfl) h)
noncomputable def zbu (cf:zak) (lf:zac) (b':Value) (l':Value) (st:SS):Option (Value×SS):=
 let a:SS:=st.new (.cells (l':Value).cells.toList 0)
 ((a.ld st.next 1).bind asS).bind fun b=>
 cond (!(eqT b ⟨#[]⟩)) (
 ((a.ld st.next 1).bind asS).bind fun c=>
 (zar b').bind fun d=>
 (addr? d).bind fun e=>
 ((a.ld e.1 e.2).bind (asI .i64)).bind fun f=>
 (cf 70 [b',.string c,.int .i64 f] a).bind fun g=>
 ((some g.1).bind asB).bind fun h=>
 cond (!h) (
 some (.bool false,g.2)) (
 ((g.2.ld st.next 2).bind asS).bind fun i=>
 cond (!(eqT i ⟨#[]⟩)) (
 (g.2.ldN st.next 0 5).bind fun j=>
 (cf 71 [b',j] g.2).bind fun k=>
 ((some k.1).bind asB).bind fun l=>
 some (.bool l,k.2)) (
 (g.2.ld st.next 4).bind fun m=>
 ((lenV m).bind (asI .i64)).bind fun n=>
 cond (decide (n=0)) (
 some (.bool true,g.2)) (
 (zar b').bind fun o=>
 (addr? o).bind fun p=>
 (g.2.ld p.1 (p.2+2)).bind fun q=>
 (zar b').bind fun r=>
 (addr? r).bind fun s=>
 ((g.2.ld s.1 s.2).bind (asI .i64)).bind fun t=>
 (g.2.ldN st.next 0 5).bind fun u=>
 (zaP u 5).bind fun v=>
 (zaP (.agg ⟨spl [.int .i64 t,.int .i64 0,.string ⟨#[]⟩,.string ⟨#[]⟩,.slice none 0 0,.slice none 0 0] 1 v⟩) 6).bind fun w=>
 let x:SS:=g.2.new (.cells (w++([])) 6)
 (x.app 6 96 q (.slice (some ⟨g.2.next,0,none⟩) 1 1)).bind fun y=>
 (zar b').bind fun z=>
 (addr? z).bind fun A=>
 (y.2.stV A.1 (A.2+2) 1 y.1).bind fun B=>
 (zar b').bind fun C=>
 (addr? C).bind fun D=>
 ((B.ld D.1 D.2).bind (asI .i64)).bind fun E=>
 let F:Int:=IntKind.wrap .i64 (E+1)
 (zar b').bind fun G=>
 (addr? G).bind fun H=>
 (B.st H.1 H.2 [.int .i64 F]).bind fun I=>
 (zar b').bind fun J=>
 (addr? J).bind fun K=>
 ((I.ld K.1 K.2).bind (asI .i64)).bind fun L=>
 some (.bool (decide (L≤2048)),I))))) (
 ((a.ld st.next 2).bind asS).bind fun M=>
 cond (!(eqT M ⟨#[]⟩)) (
 (a.ldN st.next 0 5).bind fun N=>
 (cf 71 [b',N] a).bind fun O=>
 ((some O.1).bind asB).bind fun P=>
 some (.bool P,O.2)) (
 (a.ld st.next 4).bind fun Q=>
 ((lenV Q).bind (asI .i64)).bind fun R=>
 cond (decide (R=0)) (
 some (.bool true,a)) (
 (zar b').bind fun S=>
 (addr? S).bind fun T=>
 (a.ld T.1 (T.2+2)).bind fun U=>
 (zar b').bind fun V=>
 (addr? V).bind fun W=>
 ((a.ld W.1 W.2).bind (asI .i64)).bind fun X=>
 (a.ldN st.next 0 5).bind fun Y=>
 (zaP Y 5).bind fun Z=>
 (zaP (.agg ⟨spl [.int .i64 X,.int .i64 0,.string ⟨#[]⟩,.string ⟨#[]⟩,.slice none 0 0,.slice none 0 0] 1 Z⟩) 6).bind fun aA=>
 let aB:SS:=a.new (.cells (aA++([])) 6)
 (aB.app 6 96 U (.slice (some ⟨a.next,0,none⟩) 1 1)).bind fun aC=>
 (zar b').bind fun aD=>
 (addr? aD).bind fun aE=>
 (aC.2.stV aE.1 (aE.2+2) 1 aC.1).bind fun aF=>
 (zar b').bind fun aG=>
 (addr? aG).bind fun aH=>
 ((aF.ld aH.1 aH.2).bind (asI .i64)).bind fun aI=>
 let aJ:Int:=IntKind.wrap .i64 (aI+1)
 (zar b').bind fun aK=>
 (addr? aK).bind fun aL=>
 (aF.st aL.1 aL.2 [.int .i64 aJ]).bind fun aM=>
 (zar b').bind fun aN=>
 (addr? aN).bind fun aO=>
 ((aM.ld aO.1 aO.2).bind (asI .i64)).bind fun aP=>
 some (.bool (decide (aP≤2048)),aM))))
noncomputable abbrev zcK:zac:=lS Tryz.prog Lk0 Tryz.f43 zaw
theorem zhl:Lk0.func 43=some (43,Tryz.f43):=by kernel_rfl
theorem zbv [Sym] (b':Value) (l':Value) (st:SS) {r:Value×SS} (h:zbu cc zcK b' l' st=some r):cc 43 [b',l'] st=some r:=
 zad (li:=zaw) zai zaq zhl rfl (fun _=>rfl) (.trans (by kernel_rfl) h)
noncomputable def zbH (cf:zak) (lf:zac) (b':Value) (field':ByteArray) (v':Value) (st:SS):Option (Value×SS):=
 let a:SS:=(st.ro st.next).new (.cells (v':Value).cells.toList 0)
 ((a.ld ((st.ro st.next).next) 0).bind asS).bind fun b=>
 cond (eqT b ⟨#[]⟩) (
 ((a.ld ((st.ro st.next).next) 1).bind (asI .i64)).bind fun c=>
 some (.tuple #[.int .i64 c,.bool true],st.adv a.next)) (
 (cf 117 [.string field'] (a.ro a.next)).bind fun d=>
 (((d.2.ro a.lim).ld ((st.ro st.next).next) 0).bind asS).bind fun e=>
 (cf 116 [d.1,.string e] (d.2.ro a.lim)).bind fun f=>
 ((some f.1).bind (asI .i64)).bind fun g=>
 cond (decide (0≤g)) (
 ((f.2.ld ((st.ro st.next).next) 1).bind (asI .i64)).bind fun h=>
 let i:Int:=IntKind.wrap .i64 (g+h)
 some (.tuple #[.int .i64 i,.bool true],st.adv f.2.next)) (
 (zar b').bind fun j=>
 (addr? j).bind fun k=>
 (f.2.ld k.1 (k.2+1)).bind fun l=>
 ((f.2.ld ((st.ro st.next).next) 0).bind asS).bind fun m=>
 (f.2.mapF l m).bind fun n=>
 zeo n (
 ((f.2.ld ((st.ro st.next).next) 1).bind (asI .i64)).bind fun o=>
 let p:Int:=IntKind.wrap .i64 (0+o)
 some (.tuple #[.int .i64 p,.bool false],st.adv f.2.next)) (fun q=>
 ((zal (.tuple #[q,.bool true]) 0).bind (asI .i64)).bind fun r=>
 ((f.2.ld ((st.ro st.next).next) 1).bind (asI .i64)).bind fun s=>
 let t:Int:=IntKind.wrap .i64 (r+s)
 some (.tuple #[.int .i64 t,.bool true],st.adv f.2.next))))
noncomputable abbrev zgS:zac:=lS Tryz.prog Lk0 Tryz.f99 zaw
theorem zgT:Lk0.func 99=some (99,Tryz.f99):=by kernel_rfl
theorem zbP [Sym] (b':Value) (field':ByteArray) (v':Value) (st:SS) {r:Value×SS} (h:zbH cc zgS b' field' v' st=some r):cc 99 [b',.string field',v'] st=some r:=
 zad (li:=zaw) zai zaq zgT rfl (fun _=>rfl) (.trans (by kernel_rfl) h)
def zdE:LoopI:=⟨[(0,.any),(4,.any),(6,.any),(13,.any),(14,.int .i64),(15,.int .i64)],[(.exit 0,[(4,.any),(6,.any)]),(.ret,[(4,.any),(5,.int .i64)])]⟩
def zdT (n:Nat):Option LoopI:=cond (Nat.beq n 3) (some zdE) (none)
noncomputable def zde (cf:zak) (lf:zac) (b':Value) (l':Value) (st:SS):Option (Value×SS):=
 let a:SS:=(st.ro st.next).new (.cells (l':Value).cells.toList 0)
 let b:SS:=a.new (.cells [.int .i64 0,.int .i64 0,.int .i64 0,.int .i64 0,.int .i64 0,.int .i64 0,.int .i64 0,.int .i64 0,.int .i64 0,.int .i64 0,.int .i64 0,.int .i64 0] 0)
 let c:SS:=b.new (.cells [.int .i64 0,.int .i64 0,.int .i64 0,.int .i64 0,.int .i64 0,.int .i64 0,.int .i64 0,.int .i64 0,.int .i64 0,.int .i64 0,.int .i64 0,.int .i64 0] 0)
 (c.ld ((st.ro st.next).next) 4).bind fun d=>
 ((lenV d).bind (asI .i64)).bind fun e=>
 (lf 3 [b',ptr a.next 0,ptr b.next 0,d,.int .i64 e,.int .i64 0] c).bind fun f=>
 cond (Nat.beq f.1 0) (
 (f.2.1[0]?).bind fun g=>
 (f.2.1[1]?).bind fun h=>
 (addr? h).bind fun i=>
 (f.2.2.ldN i.1 i.2 12).bind fun j=>
 (addr? g).bind fun k=>
 (f.2.2.stV k.1 k.2 12 j).bind fun l=>
 (addr? g).bind fun m=>
 (l.rdN m.1 m.2 12).bind fun n=>
 cond (flat3 (.tuple #[n,.int .i64 0])) (some (.tuple #[n,.int .i64 0],st.adv l.next)) none) (
 (f.2.1[0]?).bind fun o=>
 ((f.2.1[1]?).bind (asI .i64)).bind fun p=>
 (addr? o).bind fun q=>
 (f.2.2.rdN q.1 q.2 12).bind fun r=>
 cond (flat3 (.tuple #[r,.int .i64 p])) (some (.tuple #[r,.int .i64 p],st.adv f.2.2.next)) none)
noncomputable abbrev zaI:zac:=lS Tryz.prog Lk0 Tryz.f72 zdT
theorem zgU:Lk0.func 72=some (72,Tryz.f72):=by kernel_rfl
theorem zdU [Sym] (b':Value) (l':Value) (st:SS) {r:Value×SS} (h:zde cc zaI b' l' st=some r):cc 72 [b',l'] st=some r:=
 zad (li:=zdT) zai zaq zgU rfl (fun _=>rfl) (.trans (by kernel_rfl) h)
noncomputable def za2 (cf:zak) (lf:zac) (b':Value) (t4':Value) (w':Value) (t13':Value) (t14':Int) (t15':Int) (st:SS):Option (Nat×List Value×SS):=
 cond (decide (t15'<t14')) (
 (zas t13' t15' 5).bind fun a=>
 (st.ldN a.1 a.2 5).bind fun b=>
 let c:SS:=st.new (.cells [.string ⟨#[]⟩,.int .i64 0,.string ⟨#[]⟩,.int .i64 0,.int .i64 0] 0)
 (c.stV st.next 0 5 b).bind fun d=>
 ((d.ld st.next 0).bind asS).bind fun e=>
 (cf 98 [.string e] d).bind fun f=>
 ((some f.1).bind (asI .i64)).bind fun g=>
 cond (decide (g=0)) (
 (addr? w').bind fun h=>
 (f.2.ldN h.1 h.2 12).bind fun i=>
 ((f.2.ld st.next 1).bind (asI .i64)).bind fun j=>
 cond (zbp (ptr st.next 1) t4') (
 (addr? t4').bind fun k=>
 (f.2.stV k.1 k.2 12 i).bind fun l=>
 some (1,[t4',.int .i64 j],l)) (
 none)) (
 ((f.2.ld st.next 0).bind asS).bind fun m=>
 (f.2.ldN st.next 2 3).bind fun n=>
 (cf 99 [b',.string m,n] f.2).bind fun o=>
 ((zal o.1 0).bind (asI .i64)).bind fun p=>
 ((zal o.1 1).bind asB).bind fun q=>
 (addr? w').bind fun r=>
 (o.2.ldN r.1 r.2 12).bind fun s=>
 ((o.2.ld st.next 0).bind asS).bind fun t=>
 (cf 100 [s,.string t,.int .i64 p] o.2).bind fun u=>
 (zal u.1 0).bind fun v=>
 ((zal u.1 1).bind (asI .i64)).bind fun w=>
 (addr? w').bind fun x=>
 (u.2.stV x.1 x.2 12 v).bind fun y=>
 cond (!q) (
 (addr? w').bind fun z=>
 (y.ldN z.1 z.2 12).bind fun A=>
 ((y.ld st.next 4).bind (asI .i64)).bind fun B=>
 cond (zbp (ptr st.next 4) t4') (
 (addr? t4').bind fun C=>
 (y.stV C.1 C.2 12 A).bind fun D=>
 some (1,[t4',.int .i64 B],D)) (
 none)) (
 cond (!(decide (w=0))) (
 (addr? w').bind fun E=>
 (y.ldN E.1 E.2 12).bind fun F=>
 ((y.ld st.next 4).bind (asI .i64)).bind fun G=>
 cond (zbp (ptr st.next 4) t4') (
 (addr? t4').bind fun H=>
 (y.stV H.1 H.2 12 F).bind fun I=>
 some (1,[t4',.int .i64 G],I)) (
 none)) (
 let J:Int:=IntKind.wrap .i64 (t15'+1)
 lf 3 [b',t4',w',t13',.int .i64 t14',.int .i64 J] y)))) (
 some (0,[t4',w'],st))
theorem za3 [Sym] (b':Value) (t4':Value) (w':Value) (t13':Value) (t14':Int) (t15':Int) (st:SS) {r:Nat×List Value×SS} (h:za2 cc zaI b' t4' w' t13' t14' t15' st=some r):zaI 3 [b',t4',w',t13',.int .i64 t14',.int .i64 t15'] st=some r:=
 zaA zai zaq (key:=3) (I:=zdE) rfl (by kernel_rfl) (by kernel_rfl) rfl rfl (.trans (by kernel_rfl) h)
def zk5:LoopI:=⟨[(0,.any),(1,.str),(7,.int .i64),(8,.int .i64)],[(.exit 0,[]),(.ret,[(4,.int .i64)])]⟩
def zmm (n:Nat):Option LoopI:=cond (Nat.beq n 2) (some zk5) (none)
noncomputable def zqJ (cf:zak) (lf:zac) (s':Value) (v':ByteArray) (st:SS):Option (Value×SS):=
 ((lenV s').bind (asI .i64)).bind fun a=>
 (lf 2 [s',.string v',.int .i64 a,.int .i64 0] (st.ro st.next)).bind fun b=>
 cond (Nat.beq b.1 0) (
 some (.int .i64 (-1),st.adv b.2.2.next)) (
 ((b.2.1[0]?).bind (asI .i64)).bind fun c=>
 some (.int .i64 c,st.adv b.2.2.next))
noncomputable abbrev zfc:zac:=lS Tryz.prog Lk0 Tryz.f116 zmm
theorem zqK:Lk0.func 116=some (116,Tryz.f116):=by kernel_rfl
theorem zqL [Sym] (s':Value) (v':ByteArray) (st:SS) {r:Value×SS} (h:zqJ cc zfc s' v' st=some r):cc 116 [s',.string v'] st=some r:=
 zad (li:=zmm) zai zaq zqK rfl (fun _=>rfl) (.trans (by kernel_rfl) h)
noncomputable def zgD (cf:zak) (lf:zac) (s':Value) (v':ByteArray) (t7':Int) (t8':Int) (st:SS):Option (Nat×List Value×SS):=
 cond (decide (t8'<t7')) (
 (zas s' t8' 1).bind fun a=>
 ((st.ld a.1 a.2).bind asS).bind fun b=>
 cond (eqT v' b) (
 some (1,[.int .i64 t8'],st)) (
 let c:Int:=IntKind.wrap .i64 (t8'+1)
 lf 2 [s',.string v',.int .i64 t7',.int .i64 c] st)) (
 some (0,[],st))
theorem ziY [Sym] (s':Value) (v':ByteArray) (t7':Int) (t8':Int) (st:SS) {r:Nat×List Value×SS} (h:zgD cc zfc s' v' t7' t8' st=some r):zfc 2 [s',.string v',.int .i64 t7',.int .i64 t8'] st=some r:=
 zaA zai zaq (key:=2) (I:=zk5) rfl (by kernel_rfl) (by kernel_rfl) rfl rfl (.trans (by kernel_rfl) h)
noncomputable def zlJ (cf:zak) (lf:zac) (s':Value) (q':Nat) (st:SS):Option (Value×SS):=
 (cf 114 [s',.func (.func 97) #[] #[ptr q' 0]] (st.ro st.next)).bind fun a=>
 ((some a.1).bind (asI .i64)).bind fun b=>
 some (.bool (decide (0≤b)),st.adv a.2.next)
noncomputable abbrev zpu:zac:=lS Tryz.prog Lk0 Tryz.f96 zaw
theorem zpv:Lk0.func 96=some (96,Tryz.f96):=by kernel_rfl
theorem zpw [Sym] (s':Value) (q':Nat) (st:SS) {r:Value×SS} (h:zlJ cc zpu s' q' st=some r):cc 96 [s',.func (.func 97) #[] #[ptr q' 0]] st=some r:=
 zad (li:=zaw) zai zaq zpv rfl (fun _=>rfl) (.trans (by kernel_rfl) h)
def zk6:LoopI:=⟨[(0,.any),(1,.any),(7,.int .i64),(8,.int .i64)],[(.exit 0,[]),(.ret,[(4,.int .i64)])]⟩
def zmn (n:Nat):Option LoopI:=cond (Nat.beq n 2) (some zk6) (none)
noncomputable def znA (cf:zak) (lf:zac) (s':Value) (q':Nat) (st:SS):Option (Value×SS):=
 ((lenV s').bind (asI .i64)).bind fun a=>
 (lf 2 [s',.func (.func 97) #[] #[ptr q' 0],.int .i64 a,.int .i64 0] (st.ro st.next)).bind fun b=>
 cond (Nat.beq b.1 0) (
 some (.int .i64 (-1),st.adv b.2.2.next)) (
 ((b.2.1[0]?).bind (asI .i64)).bind fun c=>
 some (.int .i64 c,st.adv b.2.2.next))
noncomputable abbrev zfd:zac:=lS Tryz.prog Lk0 Tryz.f114 zmn
theorem zqM:Lk0.func 114=some (114,Tryz.f114):=by kernel_rfl
theorem zmo [Sym] (s':Value) (q':Nat) (st:SS) {r:Value×SS} (h:znA cc zfd s' q' st=some r):cc 114 [s',.func (.func 97) #[] #[ptr q' 0]] st=some r:=
 zad (li:=zmn) zai zaq zqM rfl (fun _=>rfl) (.trans (by kernel_rfl) h)
noncomputable def zgE (cf:zak) (lf:zac) (s':Value) (q':Nat) (t7':Int) (t8':Int) (st:SS):Option (Nat×List Value×SS):=
 cond (decide (t8'<t7')) (
 (zas s' t8' 3).bind fun a=>
 (st.ldN a.1 a.2 3).bind fun b=>
 (cf 97 [b,ptr q' 0] st).bind fun c=>
 ((some c.1).bind asB).bind fun d=>
 cond d (
 some (1,[.int .i64 t8'],c.2)) (
 let e:Int:=IntKind.wrap .i64 (t8'+1)
 lf 2 [s',.func (.func 97) #[] #[ptr q' 0],.int .i64 t7',.int .i64 e] c.2)) (
 some (0,[],st))
theorem zgd [Sym] (s':Value) (q':Nat) (t7':Int) (t8':Int) (st:SS) {r:Nat×List Value×SS} (h:zgE cc zfd s' q' t7' t8' st=some r):zfd 2 [s',.func (.func 97) #[] #[ptr q' 0],.int .i64 t7',.int .i64 t8'] st=some r:=
 zaA zai zaq (key:=2) (I:=zk6) rfl (by kernel_rfl) (by kernel_rfl) rfl rfl (.trans (by kernel_rfl) h)
noncomputable def valEq (cf:zak) (lf:zac) (v':Value) (x1':Value) (st:SS):Option (Value×SS):=
 let a:SS:=(st.ro st.next).new (.cells (v':Value).cells.toList 0)
 ((a.ld ((st.ro st.next).next) 0).bind asS).bind fun b=>
 (addr? x1').bind fun c=>
 ((a.ld c.1 c.2).bind asS).bind fun d=>
 some (.bool (eqT b d),st.adv a.next)
noncomputable abbrev zrT:zac:=lS Tryz.prog Lk0 Tryz.f97 zaw
theorem zrU:Lk0.func 97=some (97,Tryz.f97):=by kernel_rfl
theorem zrV [Sym] (v':Value) (x1':Value) (st:SS) {r:Value×SS} (h:valEq cc zrT v' x1' st=some r):cc 97 [v',x1'] st=some r:=
 zad (li:=zaw) zai zaq zrU rfl (fun _=>rfl) (.trans (by kernel_rfl) h)
end Go.Proofs.YtifploedaacedaaGreatDoorE
namespace Go.Proofs.YtifploedaacedaaGreatDoorE
open Go Go.E Go.Proofs
abbrev Nms:=List (List UInt8×Int)
def zbd (l:Nms) (n:List UInt8):Option Int:=(l.find? fun x=>decide (n=x.1)).map (·.2)
structure Lay where
 pl:Nat
 nms:Nms
 wds:List (Nat×PLine)
 ents:List (Val×Nat×Nat)
def Lay.define (l:Lay) (n:List UInt8) (x:Int):Option Lay:=if (zbd l.nms n).isSome=true∨n=[] then none else some { l with nms:=l.nms++[(n,x)] }
def zcb (l:Lay) (x:PLine):Option Lay:=match x.args with
 | []=>none
 | v::r=>
   if x.dir=[111,114,103] then (if v.nm=[]∧r=[]∧(l.pl:Int)≤v.x∧v.x≤2048 then some { l with pl:=v.x.toNat } else none)
   else if x.dir=[97,108,105,103,110] then (if v.nm=[]∧r=[]∧1≤v.x∧v.x≤2048∧(l.pl+v.x.toNat-1)/v.x.toNat*v.x.toNat≤2048 then some { l with pl:=(l.pl+v.x.toNat-1)/v.x.toNat*v.x.toNat } else none)
   else if x.dir=[115,101,116] then (match r with
    | [y]=>if v.nm≠[]∧v.x=0∧y.nm=[] then l.define v.nm y.x else none
    | _=>none)
   else if x.dir=[101,110,116,114,121] then (if v.nm≠[]∧r=[]∧v.x=0∧(l.ents.any fun e=>decide (e.1.nm=v.nm))=false then some { l with ents:=l.ents++[(v,x.ln,v.col)] } else none)
   else none
def zh8 (l:Lay) (x:PLine):Option Lay:=
 (if x.lab=[] then some l else l.define x.lab l.pl).bind fun l=>
 if x.dir≠[] then zcb l x
 else if x.prs=[] then some l
 else if l.pl+1≤2048 then some { l with pl:=l.pl+1,wds:=l.wds++[(l.pl,x)] } else none
def zeV (l:Nms) (f:List UInt8) (v:Val):Option Int:=
 if v.nm=[] then some v.x else
 if 0≤inT (namesT f) v.nm then some (inT (namesT f) v.nm+v.x) else (zbd l v.nm).map (·+v.x)
def za0 (l:Nms) (w:Wd):List Pr→Wd×Nat
 | []=>(w,0)
 | p::r=>if zfF p.fd=0 then (w,p.col) else match zeV l p.fd p.v with
   | none=>(w,p.v.col)
   | some x=>if (zby w p.fd x).2=0 then za0 l (zby w p.fd x).1 r else (w,p.v.col)
def nmM (l:Nms):List (ByteArray×Value):=l.map fun x=>(mkS x.1,.int .i64 x.2)
theorem zkd (l:Nms) (k:List UInt8):zdh (mkS k) (nmM l)=(zbd l k).map (.int .i64):=by
 induction l with
 | nil=>rfl
 | cons x r ih=>
   show cond (eqT (mkS k) (mkS x.1)) _ (zdh (mkS k) (nmM r))=_
   unfold zbd
   rw [zeh,List.find?_cons]
   by_cases h:k=x.1
   ·rw [zdt h];rfl
   ·rw [zdf h]
    exact ih
theorem zsW (l:Nms) (k:List UInt8) (x:Int) (h:zbd l k=none):zdZ (mkS k) (.int .i64 x) (nmM l)=nmM (l++[(k,x)]):=by
 induction l with
 | nil=>rfl
 | cons y r ih=>
   unfold zbd at h
   rw [List.find?_cons] at h
   show cond (eqT (mkS k) (mkS y.1)) _ _=_
   rw [zeh]
   by_cases hk:k=y.1
   ·rw [zdt hk] at h;cases h
   ·rw [zdf hk] at h ⊢
    show (mkS y.1,Value.int .i64 y.2)::zdZ (mkS k) (.int .i64 x) (nmM r)=_
    rw [ih h];rfl
theorem define_ok [Sym] (b i:Nat) (p vw ve vv:Value) (l:Nms) (n:List UInt8) (x:Int) (st:SS) (hb:At st b [p,.map (some i),vw,ve,vv]) (hi:st.mem.get i=some (.map (nmM l))) (hlt:i<st.next) (hlim:st.lim≤i):
  (if (zbd l n).isSome=true∨n=[] then cc 70 [ptr b 0,.string (mkS n),.int .i64 x] st=some (.bool false,st)
   else ∃ st',cc 70 [ptr b 0,.string (mkS n),.int .i64 x] st=some (.bool true,st')∧Mod [i] st st'∧st'.next=st.next∧st'.mem.get i=some (.map (nmM (l++[(n,x)])))):=by
 have h1:zar (ptr b 0)=some (ptr b 0):=rfl
 have l1:st.ld b (0+1)=some (.map (some i)):=hb.ld
 have m1:st.mapF (.map (some i)) (mkS n)=some ((zbd l n).map (.int .i64)):=by
  unfold SS.mapF
  simp only [hi,zob,zkd]
 cases hf:zbd l n with
 | some y=>
   rw [hf] at m1
   rw [if_pos (.inl rfl)]
   refine zcC _ _ _ st ?_
   simp only [zci,h1,zob,zaf,l1,m1,Option.map_some,zeo]
   rfl
 | none=>
   rw [hf] at m1
   by_cases hn:n=[]
   ·subst hn
    rw [if_pos (.inr rfl)]
    have he:eqT (mkS []) ⟨#[]⟩=true:=rfl
    refine zcC _ _ _ st ?_
    simp only [zci,h1,zob,zaf,l1,m1,Option.map_none,zeo,he,zct]
   ·rw [if_neg (by rintro (h | h);cases h;exact hn h)]
    have he:eqT (mkS n) ⟨#[]⟩=false:=by rw [zdx];exact zdf hn
    have m2:st.mapP (.map (some i)) (mkS n) (.int .i64 x)=some (st.set i (some (.map (nmM (l++[(n,x)]))))):=by
     unfold SS.mapP
     have:Nat.ble st.lim i=true:=by rwa [Nat.ble_eq]
     simp only [this,zct,hi,zob,zsW l n x hf]
    refine ⟨st.set i (some (.map (nmM (l++[(n,x)])))),zcC _ _ _ st ?_,⟨zlr _,rfl,fun j hj hS=>SS.set_old (by simpa using hS)⟩,rfl,by simp⟩
    simp only [zci,h1,zob,zaf,l1,m1,Option.map_none,zeo,he,zcf,m2]
end Go.Proofs.YtifploedaacedaaGreatDoorE
namespace Go.Proofs.YtifploedaacedaaGreatDoorE
open Go Go.E Go.Proofs
theorem zqN [Sym] (l:List (List UInt8)) (hl:l.length≤1099511627776) (s:ByteArray) (v:Value) (st:SS) (hv:Rd st v (strs l) 1 l.length):∀ (r:List (List UInt8)) (i:Nat),l.drop i=r→i≤l.length→
  zfc 2 [v,.string s,.int .i64 l.length,.int .i64 i] st=some (match r.findIdx? (fun x=>decide (x=bl s)) with | none=>(0,[],st) | some k=>(1,[.int .i64 ((i+k:Nat):Int)],st)):=by
 intro r
 induction r with
 | nil=>
   intro i hd hi
   have hlen:=congrArg List.length hd
   rw [List.length_drop] at hlen
   have h:¬ (i:Int)<(l.length:Int):=by simp at hlen;omega
   refine ziY _ _ _ _ st ?_
   simp only [zgD,zdf h,zcf,List.findIdx?_nil]
 | cons p r ih=>
   intro i hd hi
   have hlen:=congrArg List.length hd
   rw [List.length_drop,List.length_cons] at hlen
   have h:(i:Int)<(l.length:Int):=by omega
   have hgp:l[i]?=some p:=by
    have:=List.getElem?_drop (xs:=l) (i:=i) (j:=0)
    rw [hd] at this
    simpa using this.symm
   have hd':l.drop (i+1)=r:=by rw [← List.drop_drop,hd];rfl
   obtain ⟨q,b1,_,b3⟩:=hv.load (j:=(i:Int)) (by omega) h (strs_get _ i p hgp) rfl
   have b3':st.ld q.1 q.2=some (.string (mkS p)):=by simpa using b3 0 (by omega)
   refine ziY _ _ _ _ st ?_
   have hw:=zbf (i:=i) (by omega)
   by_cases hp:p=bl s
   ·have he:eqT s (mkS p)=true:=by rw [zd4,zbB];exact zdt hp.symm
    simp only [zgD,zdt h,zct,b1,b3',zob,zab,he,List.findIdx?_cons,zdt hp,if_true]
    rfl
   ·have he:eqT s (mkS p)=false:=by rw [zd4,zbB];exact zdf (fun h=>hp h.symm)
    have:=ih (i+1) hd' (by omega)
    simp only [zgD,zdt h,zct,b1,b3',zob,zab,he,zcf,hw,List.findIdx?_cons,zdf hp]
    rw [this]
    cases r.findIdx? (fun x=>decide (x=bl s)) with
    | none=>rfl
    | some k=>simp;omega
theorem zsX [Sym] (l:List (List UInt8)) (hl:l.length≤1099511627776) (s:ByteArray) (v:Value) (st:SS) (hv:Rd st v (strs l) 1 l.length):cc 116 [v,.string s] st=some (.int .i64 (inT l (bl s)),st.adv st.next):=by
 have h:=zqN l hl s v (st.ro st.next) hv l 0 rfl (Nat.zero_le _)
 have h':zfc 2 [v,.string s,.int .i64 l.length,.int .i64 0] (st.ro st.next)=_:=h
 refine zqL v s st ?_
 simp only [zqJ,hv.len,zob,zaa]
 rw [h',zob]
 unfold inT
 cases l.findIdx? (fun x=>decide (x=bl s)) with
 | none=>rfl
 | some k=>simp
theorem zk7 (f:List UInt8):(namesT f).length≤64:=by
 unfold namesT
 repeat' split
 all_goals decide+kernel
theorem inT_le (l:List (List UInt8)) (s:List UInt8): -1≤inT l s∧inT l s≤l.length:=by
 unfold inT
 cases h:l.findIdx? (fun x=>decide (x=s)) with
 | none=>simp
 | some k=>
   have:=(List.findIdx?_eq_some_iff_getElem.1 h).1
   simp only
   omega
def NmsOk (l:Nms):Prop:=∀ x∈l, -4294967296≤x.2∧x.2≤4294967296
theorem zqO {l:Nms} {n:List UInt8} {x:Int} (h:zbd l n=some x):∃ y∈l,y.2=x:=by
 unfold zbd at h
 simp only [zmi] at h
 obtain ⟨y,hy,rfl⟩:=h
 exact ⟨y,List.mem_of_find?_eq_some hy,rfl⟩
def numR:Option Int→Int→Value
 | some x,_=>.tuple #[.int .i64 x,.bool true]
 | none,y=>.tuple #[.int .i64 y,.bool false]
theorem zpx [Sym] (b i:Nat) (p vw ve vv:Value) (l:Nms) (hl:NmsOk l) (f:List UInt8) (v:Val) (h0: -4294967296≤v.x) (h1:v.x≤4294967296) (st:SS) (hg:Gd st) (hb:st.mem.get b=some (.cells [p,.map (some i),vw,ve,vv] 0)) (hbl:b<st.next) (hi:st.mem.get i=some (.map (nmM l))) (hlt:i<st.next):
  ∃ n,st.next≤n∧cc 99 [ptr b 0,.string (mkS f),.agg (valRow v).toArray] st=some (numR (zeV l f v) v.x,st.adv n):=by
 have x1:Ext (st.ro st.next) ((st.ro st.next).new (.cells (valRow v) 0)):=(Ext.refl _).new _
 have hm:((st.ro st.next).new (.cells (valRow v) 0)).mem.get st.next=some (.cells (valRow v) 0):=SS.new_get (st:=st.ro st.next)
 have l0:((st.ro st.next).new (.cells (valRow v) 0)).ld st.next 0=some (.string (mkS v.nm)):=by rw [SS.ld_cells hm];rfl
 have l1:((st.ro st.next).new (.cells (valRow v) 0)).ld st.next 1=some (.int .i64 v.x):=by rw [SS.ld_cells hm];rfl
 have hn:eqT (mkS v.nm) ⟨#[]⟩=decide (v.nm=[]):=zdx _
 by_cases hnm:v.nm=[]
 ·have hs:zeV l f v=some v.x:=by unfold zeV;rw [if_pos hnm]
  rw [hs]
  rw [zdt hnm] at hn
  refine ⟨st.next+1,by omega,zbP _ _ _ st ?_⟩
  simp only [zbH,zaC,SS.ro_next,l0,l1,zob,zab,hn,zct,zaa]
  rfl
 ·rw [zdf hnm] at hn
  have g1:Gd ((st.ro st.next).new (.cells (valRow v) 0)):=(hg.ro (n:=st.next)).ext x1
  generalize hs1:(st.ro st.next).new (.cells (valRow v) 0)=s1 at*
  have hn1:s1.next=st.next+1:=by rw [← hs1];rfl
  obtain ⟨v4,s4,c4,x4,o4⟩:=zrI (mkS f) (s1.ro s1.next) g1.ro (zlr _)
  have x4':Ext s1 (s4.ro s1.lim):=⟨x4.next,rfl,fun j hj=>x4.keep j hj⟩
  have r4:Rd (s4.ro s1.lim) v4 (strs (namesT f)) 1 (namesT f).length:=o4.rd
  have l5:(s4.ro s1.lim).ld st.next 0=some (.string (mkS v.nm)):=by rw [SS.ld_cells (x4'.get (by omega) hm)];rfl
  have c6:=zsX (namesT f) (by have:=zk7 f;omega) (mkS v.nm) v4 (s4.ro s1.lim) r4
  have x6:Ext (s4.ro s1.lim) ((s4.ro s1.lim).adv (s4.ro s1.lim).next):=(Ext.refl _).adv (zlr _)
  have hin:=inT_le (namesT f) v.nm
  have hnl:=zk7 f
  have hs5:∀ k:Nat,k<s1.next→((s4.ro s1.lim).adv (s4.ro s1.lim).next).mem.get k=s1.mem.get k:=fun k hk=>(x4'.trans x6).keep k hk
  generalize hs6:(s4.ro s1.lim).adv (s4.ro s1.lim).next=s6 at*
  have hnx:st.next≤s6.next:=by rw [← hs6];have:=x4.next;simp at this ⊢;omega
  have hm6:s6.mem.get st.next=some (.cells (valRow v) 0):=(hs5 st.next (by omega)).trans hm
  have l60:s6.ld st.next 0=some (.string (mkS v.nm)):=by rw [SS.ld_cells hm6];rfl
  have l61:s6.ld st.next 1=some (.int .i64 v.x):=by rw [SS.ld_cells hm6];rfl
  by_cases hk:0≤inT (namesT f) v.nm
  ·have hs:zeV l f v=some (inT (namesT f) v.nm+v.x):=by unfold zeV;rw [if_neg hnm,if_pos hk]
   rw [hs]
   have hw:IntKind.wrap .i64 (inT (namesT f) v.nm+v.x)=inT (namesT f) v.nm+v.x:=wrap64 (by omega) (by omega)
   refine ⟨s6.next,hnx,zbP _ _ _ st ?_⟩
   simp only [zbH,zaC,SS.ro_next,hs1,l0,zob,zab,hn,zcf,c4,l5,c6,zbB,zaa,zdt hk,zct,l61,hw]
   rfl
  ·have hs:zeV l f v=(zbd l v.nm).map (·+v.x):=by unfold zeV;rw [if_neg hnm,if_neg hk]
   rw [hs]
   have hold:∀ k:Nat,k<st.next→s6.mem.get k=st.mem.get k:=fun k hk=>by
    rw [hs5 k (by omega),← hs1,SS.new_old (by show k≠st.next;omega)];rfl
   have hnl:zar (ptr b 0)=some (ptr b 0):=rfl
   have l7:s6.ld b (0+1)=some (.map (some i)):=by rw [SS.ld_cells ((hold b hbl).trans hb)];rfl
   have m7:s6.mapF (.map (some i)) (mkS v.nm)=some ((zbd l v.nm).map (.int .i64)):=by
    unfold SS.mapF
    simp only [(hold i hlt).trans hi,zob,zkd]
   cases hf:zbd l v.nm with
   | none=>
     rw [hf] at m7
     have hw:IntKind.wrap .i64 (0+v.x)=v.x:=by rw [Int.zero_add];exact wrap64 (by omega) (by omega)
     refine ⟨s6.next,hnx,zbP _ _ _ st ?_⟩
     simp only [zbH,zaC,SS.ro_next,hs1,l0,zob,zab,hn,zcf,c4,l5,c6,zbB,zaa,zdf hk,hnl,zaf,l7,l60,l61,m7,Option.map_none,zeo,hw]
     rfl
   | some y=>
     rw [hf] at m7
     obtain ⟨z,hz,hzy⟩:=zqO hf
     have hb':=hl z hz
     rw [hzy] at hb'
     have hw:IntKind.wrap .i64 (y+v.x)=y+v.x:=wrap64 (by omega) (by omega)
     have ht:(zal (.tuple #[.int .i64 y,.bool true]) 0).bind (asI .i64)=some y:=rfl
     refine ⟨s6.next,hnx,zbP _ _ _ st ?_⟩
     simp only [zbH,zaC,SS.ro_next,hs1,l0,zob,zab,hn,zcf,c4,l5,c6,zbB,zaa,zdf hk,hnl,zaf,l7,l60,l61,m7,Option.map_some,zeo,ht,hw]
     rfl
end Go.Proofs.YtifploedaacedaaGreatDoorE
namespace Go.Proofs.YtifploedaacedaaGreatDoorE
open Go Go.E Go.Proofs
theorem zcc {i j k k':Nat} (h:i≠j):zbp (ptr i k) (ptr j k')=true:=by
 show (!Nat.beq i j)=true
 rw [zax,zdf h];rfl
theorem zau {a b c:SS} {i:Nat} (h:Ext a b) (m:Mod [i] b c) (hi:a.next≤i):Ext a c:=((Mod.ofExt (S:=[i]) h).then m).fresh fun j hj=>by
 have:j=i:=by simpa using hj
 omega
theorem At.setW {st:SS} {b:Nat} {row:List Value} (h:At st b row) (hr:row.length=12) (w:Wd) (hw:w.length=12):∃ st',st.stV b 0 12 (wV w)=some st'∧At st' b (wRow w)∧Mod [b] st st':=by
 obtain ⟨s',e,a,m,_⟩:=h.stV (k:=0) (n:=12) (v:=wV w) (zaC _) (by rw [za8,hw]) (zf8 w) (row':=wRow w) (by rw [zbr (by rw [za8,hw,hr];exact zlr 12)];simp [za8,hw,hr])
 exact ⟨s',e,a,m⟩
def zpy (prs:List Pr):Prop:=prs.length≤1099511627776∧∀ p∈prs,0<p.col∧0<p.v.col∧ -4294967296≤p.v.x∧p.v.x≤4294967296
theorem zke (l:Nms):∀ (prs:List Pr) (w:Wd),(za0 l w prs).1.length=w.length
 | [],w=>rfl
 | p::r,w=>by
   unfold za0
   split
   ·rfl
   ·split
    ·rfl
    ·split
     ·rw [zke l r,zcA]
     ·rfl
theorem zrW [Sym] (l:Nms) (hl:NmsOk l) (prs:List Pr) (hprs:zpy prs) (b i t4 wb:Nat) (p vw ve vv v:Value) (st0:SS) (hg:Gd st0) (hb:st0.mem.get b=some (.cells [p,.map (some i),vw,ve,vv] 0)) (hbl:b<st0.next) (hi:st0.mem.get i=some (.map (nmM l))) (hlt:i<st0.next)
  (hv:Rd st0 v (rowsF prRow prs) 5 prs.length) (hne:t4≠wb) (h4:st0.next≤t4) (hw0:st0.next≤wb):∀ (k j:Nat) (w:Wd) (st:SS),prs.length=k+j→w.length=12→Ext st0 st→st.lim≤st0.next→At st wb (wRow w)→At st t4 Z12→
  ∃ st',Ext st0 st'∧((za0 l w (prs.drop j)).2=0∧zaI 3 [ptr b 0,ptr t4 0,ptr wb 0,v,.int .i64 prs.length,.int .i64 j] st=some (0,[ptr t4 0,ptr wb 0],st')∧At st' wb (wRow (za0 l w (prs.drop j)).1)∧At st' t4 Z12∨
   0<(za0 l w (prs.drop j)).2∧zaI 3 [ptr b 0,ptr t4 0,ptr wb 0,v,.int .i64 prs.length,.int .i64 j] st=some (1,[ptr t4 0,.int .i64 (za0 l w (prs.drop j)).2],st')∧∃ u:Wd,u.length=12∧At st' t4 (wRow u)):=by
 intro k
 induction k with
 | zero=>
   intro j w st hk hw he hlm aw a4
   have h:¬ (j:Int)<(prs.length:Int):=by omega
   rw [List.drop_of_length_le (by omega)]
   refine ⟨st,he,.inl ⟨rfl,za3 _ _ _ _ _ _ st ?_,aw,a4⟩⟩
   simp only [za2,zdf h,zcf]
 | succ k ih=>
   intro j w st hk hw he hlm aw a4
   have h:(j:Int)<(prs.length:Int):=by omega
   obtain ⟨q,hq⟩:∃ q,prs[j]?=some q:=⟨_,zge (by omega)⟩
   obtain ⟨x,b1,b2,_⟩:=(hv.ext he).load (j:=(j:Int)) (by omega) h (zbm zml prs j q hq) rfl
   have b2':st.ldN x.1 x.2 5=some (.agg (prRow q).toArray):=b2
   obtain ⟨q1,q2,q3,q4⟩:=hprs.2 q (zmg hq)
   have hlmn:st.lim≤st.next:=zlt hlm he.next
   obtain ⟨s4,e4,a5,x4,n4⟩:=za4 (st:=st) hlmn (r:=prRow ⟨[],0,⟨[],0,0⟩⟩) (row:=prRow q) (v:=.agg (prRow q).toArray) (zaC _) rfl rfl rfl
   have e4':(st.new (.cells [.string ⟨#[]⟩,.int .i64 0,.string ⟨#[]⟩,.int .i64 0,.int .i64 0] 0)).stV st.next 0 5 (.agg (prRow q).toArray)=some s4:=e4
   have he4:Ext st0 s4:=he.trans x4
   obtain ⟨n6,hn6,c6⟩:=zsM q.fd s4 (hg.ext he4)
   have x6:Ext s4 (s4.adv n6):=(Ext.refl _).adv hn6
   have he6:=he4.trans x6
   have a56:=a5.ext x6
   have aw6:=(aw.ext x4).ext x6
   have a46:=(a4.ext x4).ext x6
   have l0:s4.ld st.next 0=some (.string (mkS q.fd)):=a5.ld
   have hd:=drop_cons hq
   have hE:za0 l w (prs.drop j)=if zfF q.fd=0 then (w,q.col) else match zeV l q.fd q.v with
    | none=>(w,q.v.col)
    | some x=>if (zby w q.fd x).2=0 then za0 l (zby w q.fd x).1 (prs.drop (j+1)) else (w,q.v.col):=by rw [hd];rfl
   have hpne:st.next≠t4:=by have:=a4.lt;omega
   by_cases hbt:zfF q.fd=0
   ·rw [if_pos hbt] at hE
    rw [hE]
    have hz:((zfF q.fd:Nat):Int)=0:=by omega
    obtain ⟨s12,e12,a12,m12⟩:=At.setW a46 rfl w hw
    have l9:=aw6.ldN (n:=12) (by rw [za8,hw])
    have l9':(s4.adv n6).ldN wb 0 12=some (wV w):=l9
    have l10:(s4.adv n6).ld st.next 1=some (.int .i64 q.col):=a56.ld
    refine ⟨s12,zau he6 m12 h4,.inr ⟨q1,za3 _ _ _ _ _ _ st ?_,w,hw,a12⟩⟩
    simp only [za2,zdt h,zct,b1,b2',e4',l0,c6,zob,zab,zaa,zdt hz,zaf,l9',l10,zcc hpne,e12]
   ·rw [if_neg hbt] at hE
    have hz:¬ ((zfF q.fd:Nat):Int)=0:=by omega
    have l13:(s4.adv n6).ld st.next 0=some (.string (mkS q.fd)):=a56.ld
    have l14:(s4.adv n6).ldN st.next 2 3=some (.agg (valRow q.v).toArray):=a56.ldC rfl
    obtain ⟨n15,hn15,c15⟩:=zpx b i p vw ve vv l hl q.fd q.v q3 q4 (s4.adv n6) (hg.ext he6) (he6.get hbl hb) (zll hbl he6.next) (he6.get hlt hi) (zll hlt he6.next)
    have x15:Ext (s4.adv n6) ((s4.adv n6).adv n15):=(Ext.refl _).adv hn15
    have he15:=he6.trans x15
    have a515:=a56.ext x15
    have aw15:=aw6.ext x15
    have a415:=a46.ext x15
    have l19:((s4.adv n6).adv n15).ldN wb 0 12=some (wV w):=aw15.ldN (by rw [za8,hw])
    have l20:((s4.adv n6).adv n15).ld st.next 0=some (.string (mkS q.fd)):=a515.ld
    have step:∀ (y:Int),∃ n21 s25,((s4.adv n6).adv n15).next≤n21∧cc 100 [wV w,.string (mkS q.fd),.int .i64 y] ((s4.adv n6).adv n15)=some (.tuple #[wV (zby w q.fd y).1,.int .i64 (zby w q.fd y).2],((s4.adv n6).adv n15).adv n21)∧
      (((s4.adv n6).adv n15).adv n21).stV wb 0 12 (wV (zby w q.fd y).1)=some s25∧Ext st0 s25∧At s25 wb (wRow (zby w q.fd y).1)∧At s25 t4 Z12∧s25.ld st.next 4=some (.int .i64 q.v.col)∧s25.lim≤st0.next:=by
     intro y
     obtain ⟨n21,hn21,c21⟩:=set_ok w hw q.fd y ((s4.adv n6).adv n15) (hg.ext he15)
     have x21:Ext ((s4.adv n6).adv n15) (((s4.adv n6).adv n15).adv n21):=(Ext.refl _).adv hn21
     obtain ⟨s25,e25,a25,m25⟩:=At.setW (aw15.ext x21) (by rw [za8,hw]) (zby w q.fd y).1 (by rw [zcA,hw])
     have hpw:st.next≠wb:=by have:=aw.lt;omega
     have a55:=(a515.ext x21).mod m25 (by simpa using hpw)
     have hx25:Ext st0 s25:=zau (he15.trans x21) m25 hw0
     exact ⟨n21,s25,hn21,c21,e25,hx25,a25,(a415.ext x21).mod m25 (by simpa using hne),a55.ld,by rw [hx25.lim,← he.lim];exact hlm⟩
    have ht0:∀ (a:Value) (z:Int),zal (.tuple #[a,.int .i64 z]) 0=some a:=fun _ _=>rfl
    have ht1:∀ (a:Value) (z:Int),(zal (.tuple #[a,.int .i64 z]) 1).bind (asI .i64)=some z:=fun _ _=>rfl
    have hn0:∀ (y:Int) (c:Bool),(zal (.tuple #[.int .i64 y,.bool c]) 0).bind (asI .i64)=some y:=fun _ _=>rfl
    have hn1:∀ (y:Int) (c:Bool),(zal (.tuple #[.int .i64 y,.bool c]) 1).bind asB=some c:=fun _ _=>rfl
    cases hnum:zeV l q.fd q.v with
    | none=>
      rw [hnum] at hE c15
      rw [hE]
      obtain ⟨n21,s25,hn21,c21,e25,hx25,aw25,a425,l28,hlm25⟩:=step q.v.x
      obtain ⟨s30,e30,a30,m30⟩:=At.setW a425 rfl (zby w q.fd q.v.x).1 (by rw [zcA,hw])
      have l27:s25.ldN wb 0 12=some (wV (zby w q.fd q.v.x).1):=aw25.ldN (by rw [za8,zcA,hw])
      refine ⟨s30,zau hx25 m30 h4,.inr ⟨q2,za3 _ _ _ _ _ _ st ?_,_,by rw [zcA,hw],a30⟩⟩
      have c15':cc 99 [ptr b 0,.string (mkS q.fd),.agg (valRow q.v).toArray] (s4.adv n6)=some (.tuple #[.int .i64 q.v.x,.bool false],(s4.adv n6).adv n15):=c15
      simp only [za2,zdt h,zct,b1,b2',e4',l0,c6,zob,zab,zaa,zdf hz,zcf,l13,l14,c15',hn0,hn1,zaf,l19,l20,c21,ht0,ht1,e25,znf,l27,l28,zcc hpne,e30]
    | some y=>
      rw [hnum] at hE c15
      simp only at hE
      obtain ⟨n21,s25,hn21,c21,e25,hx25,aw25,a425,l28,hlm25⟩:=step y
      have c15':cc 99 [ptr b 0,.string (mkS q.fd),.agg (valRow q.v).toArray] (s4.adv n6)=some (.tuple #[.int .i64 y,.bool true],(s4.adv n6).adv n15):=c15
      have hw1:=zbf (i:=j) (by have:=hprs.1;omega)
      by_cases hs:(zby w q.fd y).2=0
      ·rw [if_pos hs] at hE
       rw [hE]
       obtain ⟨s',f1,f2⟩:=ih (j+1) (zby w q.fd y).1 s25 (by omega) (by rw [zcA,hw]) hx25 hlm25 aw25 a425
       have go:∀ r,zaI 3 [ptr b 0,ptr t4 0,ptr wb 0,v,.int .i64 prs.length,.int .i64 ((j+1:Nat):Int)] s25=some r→zaI 3 [ptr b 0,ptr t4 0,ptr wb 0,v,.int .i64 prs.length,.int .i64 j] st=some r:=fun r hr=>by
        refine za3 _ _ _ _ _ _ st ?_
        simp only [za2,zdt h,zct,b1,b2',e4',l0,c6,zob,zab,zaa,zdf hz,zcf,l13,l14,c15',hn0,hn1,zaf,l19,l20,c21,ht0,ht1,e25,znt,zdt hs,hw1]
        exact hr
       refine ⟨s',f1,?_⟩
       rcases f2 with ⟨g1,g2,g3,g4⟩ | ⟨g1,g2,g3⟩
       ·exact .inl ⟨g1,go _ g2,g3,g4⟩
       ·exact .inr ⟨g1,go _ g2,g3⟩
      ·rw [if_neg hs] at hE
       rw [hE]
       obtain ⟨s30,e30,a30,m30⟩:=At.setW a425 rfl (zby w q.fd y).1 (by rw [zcA,hw])
       have l27:s25.ldN wb 0 12=some (wV (zby w q.fd y).1):=aw25.ldN (by rw [za8,zcA,hw])
       refine ⟨s30,zau hx25 m30 h4,.inr ⟨q2,za3 _ _ _ _ _ _ st ?_,_,by rw [zcA,hw],a30⟩⟩
       simp only [za2,zdt h,zct,b1,b2',e4',l0,c6,zob,zab,zaa,zdf hz,zcf,l13,l14,c15',hn0,hn1,zaf,l19,l20,c21,ht0,ht1,e25,znt,zdf hs,znf,l27,l28,zcc hpne,e30]
def zaK:Wd:=List.replicate 12 0
theorem zqP [Sym] (l:Nms) (hl:NmsOk l) (x:Item) (hprs:zpy x.1.prs) (b i:Nat) (p vw ve vv:Value) (st:SS) (hg:Gd st) (hb:st.mem.get b=some (.cells [p,.map (some i),vw,ve,vv] 0)) (hbl:b<st.next) (hi:st.mem.get i=some (.map (nmM l))) (hlt:i<st.next)
  (hv:Rd st x.2.2 (rowsF prRow x.1.prs) 5 x.1.prs.length):
  ∃ n u,st.next≤n∧u.length=12∧((za0 l zaK x.1.prs).2=0→u=(za0 l zaK x.1.prs).1)∧cc 72 [ptr b 0,.agg (lnRow x).toArray] st=some (.tuple #[wV u,.int .i64 (za0 l zaK x.1.prs).2],st.adv n):=by
 have x1:Ext (st.ro st.next) ((st.ro st.next).new (.cells (lnRow x) 0)):=(Ext.refl _).new _
 have a2:At (((st.ro st.next).new (.cells (lnRow x) 0)).new (.cells Z12 0)) (st.next+1) Z12:=At.new (st:=(st.ro st.next).new (.cells (lnRow x) 0)) (by simp) _
 have x2:Ext ((st.ro st.next).new (.cells (lnRow x) 0)) (((st.ro st.next).new (.cells (lnRow x) 0)).new (.cells Z12 0)):=(Ext.refl _).new _
 have a3:At ((((st.ro st.next).new (.cells (lnRow x) 0)).new (.cells Z12 0)).new (.cells Z12 0)) (st.next+2) Z12:=At.new (st:=((st.ro st.next).new (.cells (lnRow x) 0)).new (.cells Z12 0)) (by simp;omega) _
 have x3:Ext (((st.ro st.next).new (.cells (lnRow x) 0)).new (.cells Z12 0)) ((((st.ro st.next).new (.cells (lnRow x) 0)).new (.cells Z12 0)).new (.cells Z12 0)):=(Ext.refl _).new _
 have he:=x1.trans (x2.trans x3)
 have l4:((((st.ro st.next).new (.cells (lnRow x) 0)).new (.cells Z12 0)).new (.cells Z12 0)).ld st.next 4=some x.2.2:=by
  have hm:((((st.ro st.next).new (.cells (lnRow x) 0)).new (.cells Z12 0)).new (.cells Z12 0)).mem.get st.next=some (.cells (lnRow x) 0):=(x2.trans x3).get (by simp) (SS.new_get (st:=st.ro st.next))
  rw [SS.ld_cells hm];rfl
 have hv':Rd (st.ro st.next) x.2.2 (rowsF prRow x.1.prs) 5 x.1.prs.length:=hv
 obtain ⟨s',f1,f2⟩:=zrW l hl x.1.prs hprs b i (st.next+1) (st.next+2) p vw ve vv x.2.2 (st.ro st.next) hg.ro hb hbl hi hlt hv' (by omega) (by simp) (by simp) x.1.prs.length 0 zaK _ (by omega) rfl he (by simp) a3 (a2.ext x3)
 rw [List.drop_zero] at f2
 have hlen:(lenV x.2.2).bind (asI .i64)=some (x.1.prs.length:Int):=by rw [hv.len];rfl
 have b0:Nat.beq 0 0=true:=rfl
 have b1:Nat.beq 1 0=false:=rfl
 have hn1:((st.ro st.next).new (.cells (lnRow x) 0)).next=st.next+1:=rfl
 have hn2:(((st.ro st.next).new (.cells (lnRow x) 0)).new (.cells Z12 0)).next=st.next+2:=rfl
 have hnx:=f1.next
 simp only [SS.ro_next] at hnx
 have hel:=zke l x.1.prs zaK
 rcases f2 with ⟨g1,g2,g3,g4⟩ | ⟨g1,g2,u,g3,g4⟩
 ·have g2':zaI 3 [ptr b 0,ptr (st.next+1) 0,ptr (st.next+2) 0,x.2.2,.int .i64 x.1.prs.length,.int .i64 0] ((((st.ro st.next).new (.cells (lnRow x) 0)).new (.cells Z12 0)).new (.cells Z12 0))=_:=g2
  obtain ⟨s12,e12,a12,m12⟩:=At.setW g4 rfl (za0 l zaK x.1.prs).1 (by rw [hel];rfl)
  have l10:s'.ldN (st.next+2) 0 12=some (wV (za0 l zaK x.1.prs).1):=g3.ldN (by rw [za8,hel];rfl)
  have l14:s12.rdN (st.next+1) 0 12=some (wV (za0 l zaK x.1.prs).1):=a12.rdN (by rw [za8,hel];rfl)
  have hz:=zkZ (za0 l zaK x.1.prs).1 0
  refine ⟨s12.next,_,by have:=m12.next;omega,by rw [hel];rfl,fun _=>rfl,zdU _ _ st ?_⟩
  rw [g1]
  simp only [zde,zaC,SS.ro_next,hn1,hn2,l4,zob,hlen,g2',b0,zct,zgs,zgz,zaf,l10,e12,l14,hz]
  rfl
 ·have g2':zaI 3 [ptr b 0,ptr (st.next+1) 0,ptr (st.next+2) 0,x.2.2,.int .i64 x.1.prs.length,.int .i64 0] ((((st.ro st.next).new (.cells (lnRow x) 0)).new (.cells Z12 0)).new (.cells Z12 0))=_:=g2
  have l18:s'.rdN (st.next+1) 0 12=some (wV u):=g4.rdN (by rw [za8,g3])
  have hz:=zkZ u (za0 l zaK x.1.prs).2
  refine ⟨s'.next,u,hnx,g3,fun h=>by omega,zdU _ _ st ?_⟩
  simp only [zde,zaC,SS.ro_next,hn1,hn2,l4,zob,hlen,g2',b1,zcf,zgs,zgz,zaf,zaa,l18,hz,zct]
end Go.Proofs.YtifploedaacedaaGreatDoorE
namespace Go.Proofs.YtifploedaacedaaGreatDoorE
open Go Go.E Go.Proofs
theorem zrX [Sym] (p:Val) (f:Val) (q:Nat) (st:SS) (hq:st.mem.get q=some (.cells (valRow f) 0)) (hlt:q<st.next):∃ n,st.next≤n∧cc 97 [.agg (valRow p).toArray,ptr q 0] st=some (.bool (decide (p.nm=f.nm)),st.adv n):=by
 refine ⟨st.next+1,by omega,zrV _ _ st ?_⟩
 have l0:((st.ro st.next).new (.cells (valRow p) 0)).ld st.next 0=some (.string (mkS p.nm)):=by
  have hm:((st.ro st.next).new (.cells (valRow p) 0)).mem.get st.next=some (.cells (valRow p) 0):=SS.new_get (st:=st.ro st.next)
  rw [SS.ld_cells hm];rfl
 have l1:((st.ro st.next).new (.cells (valRow p) 0)).ld q 0=some (.string (mkS f.nm)):=by
  rw [SS.ld_cells (c:=valRow f) (z:=0) (by rw [SS.new_old (by simp;omega)];exact hq)];rfl
 simp only [valEq,zaC,SS.ro_next,l0,zob,zab,zaf,l1,zeh]
 rfl
theorem zpz [Sym] (ps:List Val) (hsz:ps.length≤1099511627776) (f:Val) (q:Nat) (v:Value) (st0:SS) (hv:Rd st0 v (rowsF valRow ps) 3 ps.length) (hq:st0.mem.get q=some (.cells (valRow f) 0)) (hlt:q<st0.next):
  ∀ (k j:Nat) (st:SS),ps.length=k+j→Ext st0 st→∃ e vs st',zfd 2 [v,.func (.func 97) #[] #[ptr q 0],.int .i64 ps.length,.int .i64 j] st=some (e,vs,st')∧Ext st0 st'∧
   ((e=0∧vs=[]∧((ps.drop j).any fun x=>decide (x.nm=f.nm))=false)∨(e=1∧((ps.drop j).any fun x=>decide (x.nm=f.nm))=true∧∃ m:Nat,vs=[.int .i64 m])):=by
 intro k
 induction k with
 | zero=>
   intro j st hk he
   refine ⟨0,[],st,zgd v q _ _ st ?_,he,.inl ⟨rfl,rfl,?_⟩⟩
   ·have:¬ (j:Int)<(ps.length:Int):=by omega
    simp only [zgE,zdf this,zcf]
   ·rw [List.drop_of_length_le (by omega)];rfl
 | succ k ih=>
   intro j st hk he
   obtain ⟨p,hp⟩:∃ p,ps[j]?=some p:=⟨_,zge (by omega)⟩
   have hjl:(j:Int)<(ps.length:Int):=by omega
   obtain ⟨x,b1,b2,_⟩:=(hv.ext he).load (j:=(j:Int)) (by omega) hjl (zbm zpr ps j p hp) rfl
   obtain ⟨n,hn,c1⟩:=zrX p f q st (he.get hlt hq) (zll hlt he.next)
   have b2':st.ldN x.1 x.2 3=some (.agg (valRow p).toArray):=b2
   have hd:=drop_cons hp
   have hw:=zbf (i:=j) (by omega)
   by_cases hf:p.nm=f.nm
   ·refine ⟨1,[.int .i64 j],st.adv n,zgd v q _ _ st ?_,he.adv (by have:=he.next;omega),.inr ⟨rfl,?_,j,rfl⟩⟩
    ·rw [zdt hf] at c1
     simp only [zgE,zdt hjl,zct,b1,zob,b2',c1,zam]
    ·rw [hd,List.any_cons,zdt hf];rfl
   ·obtain ⟨e,vs,st',d1,d2,d3⟩:=ih (j+1) (st.adv n) (by omega) (he.adv (by have:=he.next;omega))
    rw [zdf hf] at c1
    refine ⟨e,vs,st',zgd v q _ _ st ?_,d2,?_⟩
    ·simp only [zgE,zdt hjl,zct,b1,zob,b2',c1,zam,zcf,hw]
     exact d1
    ·rw [hd,List.any_cons,zdf hf,Bool.false_or]
     exact d3
theorem zrY [Sym] (ps:List Val) (hsz:ps.length≤1099511627776) (f:Val) (q:Nat) (v:Value) (st:SS) (hv:Rd st v (rowsF valRow ps) 3 ps.length) (hq:st.mem.get q=some (.cells (valRow f) 0)) (hlt:q<st.next):
  ∃ n,st.next≤n∧cc 96 [v,.func (.func 97) #[] #[ptr q 0]] st=some (.bool (ps.any fun x=>decide (x.nm=f.nm)),st.adv n):=by
 obtain ⟨e,vs,st',d1,d2,d3⟩:=zpz ps hsz f q v ((st.ro st.next).ro (st.ro st.next).next) hv hq hlt ps.length 0 ((st.ro st.next).ro (st.ro st.next).next) (by omega) (.refl _)
 have d1':zfd 2 [v,.func (.func 97) #[] #[ptr q 0],.int .i64 ps.length,.int .i64 0] ((st.ro st.next).ro (st.ro st.next).next)=some (e,vs,st'):=d1
 have hlen:(lenV v).bind (asI .i64)=some (ps.length:Int):=by rw [hv.len];rfl
 rw [List.drop_zero] at d3
 have hnx:=d2.next
 simp at hnx
 refine ⟨st'.next,hnx,zpw _ _ st ?_⟩
 rcases d3 with ⟨rfl,rfl,e3⟩ | ⟨rfl,e2,m,rfl⟩
 ·have c:cc 114 [v,.func (.func 97) #[] #[ptr q 0]] (st.ro st.next)=some (.int .i64 (-1),(st.ro st.next).adv st'.next):=by
   refine zmo _ _ _ ?_
   have hb0:Nat.beq 0 0=true:=rfl
   simp only [znA,hlen,zob,d1',hb0,zct]
  have h0:¬ (0:Int)≤ -1:=by omega
  rw [e3]
  simp only [zlJ,c,zob,zaa,zdf h0]
  rfl
 ·have c:cc 114 [v,.func (.func 97) #[] #[ptr q 0]] (st.ro st.next)=some (.int .i64 m,(st.ro st.next).adv st'.next):=by
   refine zmo _ _ _ ?_
   have hb0:Nat.beq 1 0=false:=rfl
   simp only [znA,hlen,zob,d1',hb0,zcf,zgz,zaa]
  have h0:(0:Int)≤(m:Int):=by omega
  rw [e2]
  simp only [zlJ,c,zob,zaa,zdt h0]
  rfl
end Go.Proofs.YtifploedaacedaaGreatDoorE
namespace Go.Proofs.YtifploedaacedaaGreatDoorE
open Go Go.E Go.Proofs
def blkOf:Value→Option Nat
 | .slice (some ⟨j,_,none⟩) _ _=>some j
 | _=>none
abbrev WItem:=Nat×Item
def wdRow (x:WItem):List Value:=.int .i64 x.1::lnRow x.2
def entRow (x:Val×Nat×Nat):List Value:=[.int .i64 x.2.1,.int .i64 x.2.2]
def bldRow (pl i:Nat) (vw ve vv:Value):List Value:=[.int .i64 pl,.map (some i),vw,ve,vv]
structure Bld (st0 st:SS) (B b i:Nat) (vw ve vv:Value) (l:Lay) (its:List WItem):Prop where
 ext:Ext st0 st
 ll:st0.lim≤st0.next
 row:At st b (bldRow l.pl i vw ve vv)
 mp:st.mem.get i=some (.map (nmM l.nms))
 b0:st0.next≤b
 i0:st0.next≤i
 bB:b<B
 iB:i<B
 ne:b≠i
 BN:B≤st.next
 ow:Own B st vw (rowsF wdRow its) 6 its.length
 oe:Own B st ve (rowsF entRow l.ents) 2 l.ents.length
 ov:Own B st vv (rowsF valRow (l.ents.map (·.1))) 3 l.ents.length
 d1:∀ j,blkOf vw=some j→blkOf ve≠some j∧blkOf vv≠some j
 d2:∀ j,blkOf ve=some j→blkOf vv≠some j
 wds:its.map (fun x=>(x.1,x.2.1))=l.wds
 itr:∀ x∈its,Rd st0 x.2.2.1 (rowsF valRow x.2.1.args) 3 x.2.1.args.length∧Rd st0 x.2.2.2 (rowsF prRow x.2.1.prs) 5 x.2.1.prs.length
structure Frm (b i:Nat) (vw:Value) (st st':SS):Prop where
 next:st.next≤st'.next
 lim:st'.lim=st.lim
 keep:∀ j,j<st.next→j≠b→j≠i→blkOf vw≠some j→st'.mem.get j=st.mem.get j
theorem Frm.trans {b i:Nat} {vw:Value} {x y z:SS} (h:Frm b i vw x y) (k:Frm b i vw y z):Frm b i vw x z:=⟨zlt h.next k.next,k.lim.trans h.lim,fun j a1 a2 a3 a4=>(k.keep j (zll a1 h.next) a2 a3 a4).trans (h.keep j a1 a2 a3 a4)⟩
theorem Frm.mod {b i:Nat} {vw:Value} {S:List Nat} {x y:SS} (m:Mod S x y) (hS:∀ j,j∈S→j=b∨j=i):Frm b i vw x y:=⟨m.next,m.lim,fun j a1 a2 a3 _=>m.keep j a1 fun e=>(hS j e).elim a2 a3⟩
theorem Frm.ext {b i:Nat} {vw:Value} {x y:SS} (m:Ext x y):Frm b i vw x y:=⟨m.next,m.lim,fun j a1 _ _ _=>m.keep j a1⟩
section
variable {st0 st st' : SS} {B b i : Nat} {vw ve vv : Value} {l : Lay} {its : List WItem}
theorem Bld.then (h:Bld st0 st B b i vw ve vv l its) (x:Ext st st'):Bld st0 st' B b i vw ve vv l its:=
 { h with ext:=h.ext.trans x,row:=h.row.ext x,mp:=x.get (by have:=h.iB;have:=h.BN;omega) h.mp,BN:=zlt h.BN x.next,ow:=h.ow.ext x,oe:=h.oe.ext x,ov:=h.ov.ext x }
theorem Bld.placeM (h:Bld st0 st B b i vw ve vv l its) (p:Nat):∃ st',st.st b 0 [.int .i64 p]=some st'∧Bld st0 st' B b i vw ve vv { l with pl:=p } its∧Mod [b] st st':=by
 obtain ⟨s',e,a,m,_⟩:=h.row.sto (k:=0) (vs:=[.int .i64 p]) (row':=bldRow p i vw ve vv) rfl rfl
 have hx:Ext st0 s':=zau h.ext m h.b0
 refine ⟨s',e,{ h with ext:=hx,row:=a,mp:=m.get (by have:=h.iB;have:=h.BN;omega) (by simpa using Ne.symm h.ne) h.mp,BN:=zlt h.BN m.next,ow:=h.ow.modLt m ?_,oe:=h.oe.modLt m ?_,ov:=h.ov.modLt m ?_ },m⟩
 all_goals
  intro j hj
  have:j=b:=by simpa using hj
  have:=h.bB
  omega
theorem Bld.place (h:Bld st0 st B b i vw ve vv l its) (p:Nat):∃ st',st.st b 0 [.int .i64 p]=some st'∧Bld st0 st' B b i vw ve vv { l with pl:=p } its:=let ⟨s,e,k,_⟩:=h.placeM p;⟨s,e,k⟩
theorem Bld.define [Sym] (h:Bld st0 st B b i vw ve vv l its) (n:List UInt8) (x:Int):
  match l.define n x with
  | none=>cc 70 [ptr b 0,.string (mkS n),.int .i64 x] st=some (.bool false,st)
  | some l'=>∃ st',cc 70 [ptr b 0,.string (mkS n),.int .i64 x] st=some (.bool true,st')∧Mod [i] st st'∧Bld st0 st' B b i vw ve vv l' its:=by
 have hi:i<st.next:=by have:=h.iB;have:=h.BN;omega
 have hlim:st.lim≤i:=by rw [h.ext.lim];have:=h.ll;have:=h.i0;omega
 have hd:=define_ok b i (.int .i64 l.pl) vw ve vv l.nms n x st h.row h.mp hi hlim
 unfold Lay.define
 by_cases hc:(zbd l.nms n).isSome=true∨n=[]
 ·rw [if_pos hc] at hd ⊢
  exact hd
 ·rw [if_neg hc] at hd ⊢
  obtain ⟨s',c,m,hn,hm⟩:=hd
  have hx:Ext st0 s':=zau h.ext m h.i0
  refine ⟨s',c,m,{ h with ext:=hx,row:=h.row.mod m (by simpa using h.ne),mp:=hm,BN:=by rw [hn];exact h.BN,ow:=h.ow.modLt m ?_,oe:=h.oe.modLt m ?_,ov:=h.ov.modLt m ?_ }⟩
  all_goals
   intro j hj
   have:j=i:=by simpa using hj
   have:=h.iB
   omega
end
end Go.Proofs.YtifploedaacedaaGreatDoorE
namespace Go.Proofs.YtifploedaacedaaGreatDoorE
open Go Go.E Go.Proofs
theorem zgf {B:Nat} {st:SS} {v:Value} {c row:List Value} {z n bt:Nat} (h:Own B st v c z n) (hb:B≤st.next) (hl:st.lim≤B) (hr:row.length=z) (hz:0<z) (h1:row.all one=true) (hs:(n+2)*bt≤2^44) (hn:n+1≤2^44):
  ∃ k s',(st.new (.cells row z)).app z bt v (.slice (some ⟨st.next,0,none⟩) 1 1)=some (.slice (some ⟨k,0,none⟩) (n+1) (n+1),s')∧st.next≤k∧Own B s' (.slice (some ⟨k,0,none⟩) (n+1) (n+1)) (c++row) z (n+1)∧s'.lim=st.lim∧st.next≤s'.next∧
   ∀ j,j<st.next→blkOf v≠some j→s'.mem.get j=st.mem.get j:=by
 obtain ⟨k,s',g1,g2,g3,g4,g5,g6⟩:=h.pushN hb hl hr hz h1 hs hn
 exact ⟨k,s',g1,g2,g3,g4,g5,fun j hj hv=>g6 j hj fun q e=>hv (by rw [e];rfl)⟩
theorem zd6 {B:Nat} {st s':SS} {v:Value} {c:List Value} {z n:Nat} (h:Own B st v c z n) (hn:st.next≤s'.next) (hk:∀ j,j<st.next→blkOf v=some j→s'.mem.get j=st.mem.get j):Own B s' v c z n:=by
 obtain ⟨h1,h2⟩:=h
 refine ⟨h1,h2.imp id ?_⟩
 rintro ⟨i,e,h0,hm,hb,hi⟩
 exact ⟨i,e,h0,(hk i hi (by rw [e];rfl)).trans hm,hb,zll hi hn⟩
theorem zb0 {B:Nat} {st:SS} {v:Value} {c:List Value} {z n:Nat} (h:Own B st v c z n) {j:Nat} (hj:blkOf v=some j):B≤j∧j<st.next:=by
 obtain ⟨_,⟨rfl,_⟩ | ⟨i,rfl,_,_,hb,hi⟩⟩:=h
 ·cases hj
 ·cases hj;exact ⟨hb,hi⟩
theorem zjf (k n m:Nat):(Value.slice (some ⟨k,0,none⟩) n m).cells.toList=[Value.slice (some ⟨k,0,none⟩) n m]:=rfl
section
variable {st0 st : SS} {B b i : Nat} {vw ve vv : Value} {l : Lay} {its : List WItem}
theorem Bld.word (h:Bld st0 st B b i vw ve vv l its) (x:Item) (hx:Rd st0 x.2.1 (rowsF valRow x.1.args) 3 x.1.args.length∧Rd st0 x.2.2 (rowsF prRow x.1.prs) 5 x.1.prs.length) (ho:one x.2.1=true∧one x.2.2=true) (hn:its.length≤100000):
  ∃ vw' s1 s2,(st.new (.cells (wdRow (l.pl,x)) 6)).app 6 96 vw (.slice (some ⟨st.next,0,none⟩) 1 1)=some (vw',s1)∧s1.stV b 2 1 vw'=some s2∧Bld st0 s2 B b i vw' ve vv { l with wds:=l.wds++[(l.pl,x.1)] } (its++[(l.pl,x)])∧Frm b i vw st s2:=by
 have hlB:st.lim≤B:=by rw [h.ext.lim];have:=h.ll;have:=h.b0;have:=h.bB;omega
 obtain ⟨k,s1,g1,g2,g3,g4,g5,g6⟩:=zgf (row:=wdRow (l.pl,x)) (bt:=96) h.ow h.BN hlB rfl (by omega) (by simp only [wdRow,lnRow,List.all_cons,List.all_nil,ho.1,ho.2];rfl) (by omega) (by omega)
 have old:∀ j,j<B→s1.mem.get j=st.mem.get j:=fun j hj=>g6 j (by have:=h.BN;omega) fun e=>by have:=(zb0 h.ow e).1;omega
 have row1:At s1 b (bldRow l.pl i vw ve vv):=⟨(old b h.bB).trans h.row.1,zll h.row.lt g5,by rw [g4];exact h.row.2.2⟩
 have e1:Ext st0 s1:=⟨zlt h.ext.next g5,g4.trans h.ext.lim,fun j hj=>(old j (by have:=h.b0;have:=h.bB;omega)).trans (h.ext.keep j hj)⟩
 obtain ⟨s2,e2,a2,m2,n2⟩:=row1.stV (k:=2) (n:=1) (v:=.slice (some ⟨k,0,none⟩) (its.length+1) (its.length+1)) (zjf _ _ _) rfl rfl (row':=bldRow l.pl i (.slice (some ⟨k,0,none⟩) (its.length+1) (its.length+1)) ve vv) rfl
 have mlt:∀ j,j∈[b]→j<B:=by
  intro j hj
  have e:j=b:=by simpa using hj
  rw [e]
  exact h.bB
 have hne:∀ (u:Value),(∀ j,blkOf vw=some j→blkOf u≠some j)→∀ j,j<st.next→blkOf u=some j→s1.mem.get j=st.mem.get j:=fun u hu j hj e=>g6 j hj fun e'=>hu j e' e
 refine ⟨_,s1,s2,g1,e2,{ h with ext:=zau e1 m2 h.b0,row:=a2,mp:=m2.get (by have:=h.iB;have:=h.BN;omega) (by simpa using Ne.symm h.ne) ((old i h.iB).trans h.mp),BN:=by rw [n2];have:=h.BN;omega,ow:=?_,oe:=?_,ov:=?_,d1:=?_,wds:=?_,itr:=?_ },⟨by rw [n2];exact g5,m2.lim.trans g4,fun j a1 a2 a3 a4=>(m2.keep j (zll a1 g5) (by simpa using a2)).trans (g6 j a1 a4)⟩⟩
 ·rw [zbR,zcN,List.length_append];exact g3.modLt m2 mlt
 ·exact (zd6 h.oe g5 (hne ve fun j e=>(h.d1 j e).1)).modLt m2 mlt
 ·exact (zd6 h.ov g5 (hne vv fun j e=>(h.d1 j e).2)).modLt m2 mlt
 ·intro j hj
  cases hj
  exact ⟨fun e=>by have:=(zb0 h.oe e).2;omega,fun e=>by have:=(zb0 h.ov e).2;omega⟩
 ·simp only [List.map_append,h.wds];rfl
 ·intro y hy
  rcases List.mem_append.1 hy with hy | hy
  ·exact h.itr y hy
  ·have:y=(l.pl,x):=by simpa using hy
   subst this
   exact hx
theorem Bld.entry (h:Bld st0 st B b i vw ve vv l its) (x:Val) (ln col:Nat) (hn:l.ents.length≤100000):
  ∃ vv' s1 s2 ve' s3 s4,(st.new (.cells (valRow x) 3)).app 3 32 vv (.slice (some ⟨st.next,0,none⟩) 1 1)=some (vv',s1)∧s1.stV b 4 1 vv'=some s2∧s2.ld b 3=some ve∧Ext st0 s2∧(∀ j,j<st.next→blkOf vv≠some j→j≠b→s2.mem.get j=st.mem.get j)∧
   (s2.new (.cells (entRow (x,ln,col)) 2)).app 2 16 ve (.slice (some ⟨s2.next,0,none⟩) 1 1)=some (ve',s3)∧s3.stV b 3 1 ve'=some s4∧Bld st0 s4 B b i vw ve' vv' { l with ents:=l.ents++[(x,ln,col)] } its:=by
 have hlB:st.lim≤B:=by rw [h.ext.lim];have:=h.ll;have:=h.b0;have:=h.bB;omega
 have ov:=h.ov
 rw [show (l.ents.length)=(l.ents.map (·.1)).length by simp] at ov
 obtain ⟨k,s1,g1,g2,g3,g4,g5,g6⟩:=zgf (row:=valRow x) (bt:=32) ov h.BN hlB rfl (by omega) rfl (by simp;omega) (by simp;omega)
 have old:∀ j,j<B→s1.mem.get j=st.mem.get j:=fun j hj=>g6 j (by have:=h.BN;omega) fun e=>by have:=(zb0 h.ov e).1;omega
 have row1:At s1 b (bldRow l.pl i vw ve vv):=⟨(old b h.bB).trans h.row.1,zll h.row.lt g5,by rw [g4];exact h.row.2.2⟩
 have e1:Ext st0 s1:=⟨zlt h.ext.next g5,g4.trans h.ext.lim,fun j hj=>(old j (by have:=h.b0;have:=h.bB;omega)).trans (h.ext.keep j hj)⟩
 generalize hV:(Value.slice (some ⟨k,0,none⟩) ((l.ents.map (·.1)).length+1) ((l.ents.map (·.1)).length+1))=V at*
 have hVc:V.cells.toList=[V]∧one V=true∧blkOf V=some k:=by rw [← hV];exact ⟨rfl,rfl,rfl⟩
 obtain ⟨s2,e2,a2,m2,n2⟩:=row1.stV (k:=4) (n:=1) (v:=V) hVc.1 rfl (by simp [hVc.2.1]) (row':=bldRow l.pl i vw ve V) rfl
 have mlt:∀ j,j∈[b]→j<B:=by
  intro j hj
  have e:j=b:=by simpa using hj
  rw [e]
  exact h.bB
 have ow2:Own B s2 vw (rowsF wdRow its) 6 its.length:=(zd6 h.ow g5 fun j hj e=>g6 j hj (h.d1 j e).2).modLt m2 mlt
 have oe2:Own B s2 ve (rowsF entRow l.ents) 2 l.ents.length:=(zd6 h.oe g5 fun j hj e=>g6 j hj (h.d2 j e)).modLt m2 mlt
 have ov2:=g3.modLt m2 mlt
 have x2:Ext st0 s2:=zau e1 m2 h.b0
 have BN2:B≤s2.next:=by rw [n2];have:=h.BN;omega
 have hlB2:s2.lim≤B:=by rw [x2.lim];have:=h.ll;have:=h.b0;have:=h.bB;omega
 obtain ⟨k2,s3,q1,q2,q3,q4,q5,q6⟩:=zgf (row:=entRow (x,ln,col)) (bt:=16) oe2 BN2 hlB2 rfl (by omega) rfl (by omega) (by omega)
 have old2:∀ j,j<B→s3.mem.get j=s2.mem.get j:=fun j hj=>q6 j (by omega) fun e=>by have:=(zb0 oe2 e).1;omega
 have row3:At s3 b (bldRow l.pl i vw ve V):=⟨(old2 b h.bB).trans a2.1,zll a2.lt q5,by rw [q4];exact a2.2.2⟩
 have x3:Ext st0 s3:=⟨zlt x2.next q5,q4.trans x2.lim,fun j hj=>(old2 j (by have:=h.b0;have:=h.bB;omega)).trans (x2.keep j hj)⟩
 obtain ⟨s4,e4,a4,m4,n4⟩:=row3.stV (k:=3) (n:=1) (v:=.slice (some ⟨k2,0,none⟩) (l.ents.length+1) (l.ents.length+1)) (zjf _ _ _) rfl rfl (row':=bldRow l.pl i vw (.slice (some ⟨k2,0,none⟩) (l.ents.length+1) (l.ents.length+1)) V) rfl
 have hk2:blkOf V≠some k2:=fun e=>by have:=(zb0 ov2 e).2;omega
 refine ⟨V,s1,s2,_,s3,s4,g1,e2,a2.ld,x2,fun j hj hv hb=>(m2.keep j (by omega) (by simpa using hb)).trans (g6 j hj hv),q1,e4,{ h with ext:=zau x3 m4 h.b0,row:=a4,mp:=m4.get (by have:=h.iB;omega) (by simpa using Ne.symm h.ne) ((old2 i h.iB).trans (m2.get (by have:=h.iB;have:=h.BN;omega) (by simpa using Ne.symm h.ne) ((old i h.iB).trans h.mp))),BN:=by rw [n4];omega,ow:=?_,oe:=?_,ov:=?_,d1:=?_,d2:=?_ }⟩
 ·exact (zd6 ow2 q5 fun j hj e=>q6 j hj (h.d1 j e).1).modLt m4 mlt
 ·rw [zbR,zcN,List.length_append];exact q3.modLt m4 mlt
 ·have:=(zd6 ov2 q5 fun j hj e=>q6 j hj fun e'=>by
   have hj2:=(zb0 h.oe e').2
   rw [hVc.2.2] at e
   cases e
   omega).modLt m4 mlt
  have e5:(l.ents++[(x,ln,col)]).map (·.1)=l.ents.map (·.1)++[x]:=by simp
  have e6:(l.ents++[(x,ln,col)]).length=(l.ents.map (·.1)).length+1:=by simp
  show Own B s4 V (rowsF valRow ((l.ents++[(x,ln,col)]).map (·.1))) 3 (l.ents++[(x,ln,col)]).length
  rw [e5,e6,zbR,zcN]
  exact this
 ·intro j hj
  refine ⟨fun e=>?_,fun e=>?_⟩
  ·cases e
   have:=(zb0 ow2 hj).2
   omega
  ·rw [hVc.2.2] at e
   cases e
   have:=(zb0 h.ow hj).2
   omega
 ·intro j hj e
  cases hj
  exact hk2 e
end
end Go.Proofs.YtifploedaacedaaGreatDoorE
namespace Go.Proofs.YtifploedaacedaaGreatDoorE
open Go Go.E Go.Proofs
theorem zrZ {p n:Nat} (hp:p≤4096) (h1:1≤n) (h2:n≤2048):((IntKind.wrap .i64 (IntKind.wrap .i64 ((p:Int)+(n:Int))-1)).tdiv (n:Int))=(((p+n-1)/n:Nat):Int):=by
 rw [wrap64 (n:=(p:Int)+(n:Int)) (by omega) (by omega),wrap64 (by omega) (by omega)]
 have e:(p:Int)+(n:Int)-1=((p+n-1:Nat):Int):=by omega
 rw [e]
 exact (Int.ofNat_tdiv _ _).symm
theorem znB {p n:Nat} (hp:p≤4096) (h1:1≤n) (h2:n≤2048):(p+n-1)/n*n≤8192:=by
 have:=Nat.div_mul_le_self (p+n-1) n
 omega
def zqQ (l:Lay) (v:Val) (r:List Val):Option Lay:=match r with
 | [y]=>if v.nm≠[]∧v.x=0∧y.nm=[] then l.define v.nm y.x else none
 | _=>none
theorem zr0 {l:Lay} {x:PLine} {v:Val} {r:List Val} (h:x.args=v::r) (d1:¬ x.dir=[111,114,103]) (d2:¬ x.dir=[97,108,105,103,110]) (d3:x.dir=[115,101,116]):zcb l x=zqQ l v r:=by
 unfold zcb
 rw [h]
 simp only
 rw [if_neg d1,if_neg d2,if_pos d3]
 rfl
theorem znC [Sym] {st0 st:SS} {B b i:Nat} {vw ve vv:Value} {l:Lay} {its:List WItem} (h:Bld st0 st B b i vw ve vv l its) (x:Item) (hx:Rd st0 x.2.1 (rowsF valRow x.1.args) 3 x.1.args.length) (hpl:l.pl≤4096) (hn:l.ents.length≤100000)
  (hsz:x.1.args.length≤100000):
  match zcb l x.1 with
  | none=>∃ st',cc 71 [ptr b 0,.agg (lnRow x).toArray] st=some (.bool false,st')∧Frm b i vw st st'
  | some l'=>∃ st' ve' vv',cc 71 [ptr b 0,.agg (lnRow x).toArray] st=some (.bool true,st')∧Bld st0 st' B b i vw ve' vv' l' its:=by
 have hlm:st.lim≤st.next:=by rw [h.ext.lim];have:=h.ll;have:=h.ext.next;omega
 have x1:Ext st (st.new (.cells (lnRow x) 0)):=(Ext.refl st).new _
 have a1:At (st.new (.cells (lnRow x) 0)) st.next (lnRow x):=At.new hlm _
 have l3:(st.new (.cells (lnRow x) 0)).ld st.next 3=some x.2.1:=a1.ld
 have hr1:Rd (st.new (.cells (lnRow x) 0)) x.2.1 (rowsF valRow x.1.args) 3 x.1.args.length:=(hx.ext h.ext).ext x1
 have hlen:(lenV x.2.1).bind (asI .i64)=some (x.1.args.length:Int):=by rw [hx.len];rfl
 have hnl:zar (ptr b 0)=some (ptr b 0):=rfl
 cases hargs:x.1.args with
 | nil=>
   have hd:zcb l x.1=none:=by unfold zcb;rw [hargs]
   rw [hd]
   rw [hargs] at hlen
   refine ⟨_,zaL _ _ st (r:=(.bool false,st.new (.cells (lnRow x) 0))) ?_,.ext x1⟩
   have h0:((([]:List Val).length:Nat):Int)=0:=rfl
   simp only [zah,zaC,l3,hlen,zob,zdt h0,zct]
 | cons v r=>
   rw [hargs] at hlen hr1 hsz
   obtain ⟨q5,b1,b2,_⟩:=hr1.load (j:=(0:Int)) (by omega) (by first | (simp;done) | (simp;omega)) (row:=valRow v) rfl rfl
   have b2':(st.new (.cells (lnRow x) 0)).ldN q5.1 q5.2 3=some (.agg (valRow v).toArray):=b2
   obtain ⟨s8,e8,a8,x8,n8⟩:=za4 (st:=st.new (.cells (lnRow x) 0)) (by first | (simp;done) | (simp;omega)) (r:=valRow ⟨[],0,0⟩) (row:=valRow v) (v:=.agg (valRow v).toArray) (zaC _) rfl rfl rfl
   have e8':((st.new (.cells (lnRow x) 0)).new (.cells [.string ⟨#[]⟩,.int .i64 0,.int .i64 0] 0)).stV (st.new (.cells (lnRow x) 0)).next 0 3 (.agg (valRow v).toArray)=some s8:=e8
   have a18:=a1.ext x8
   have h8:=h.then (x1.trans x8)
   have m8:Frm b i vw st s8:=.ext (x1.trans x8)
   have hn1:¬ (((v::r).length:Nat):Int)=0:=by first | (simp;done) | (simp;omega)
   have l9:s8.ld (st.new (.cells (lnRow x) 0)).next 0=some (.string (mkS v.nm)):=a8.ld
   have l91:s8.ld (st.new (.cells (lnRow x) 0)).next 1=some (.int .i64 v.x):=a8.ld
   have l92:s8.ld (st.new (.cells (lnRow x) 0)).next 2=some (.int .i64 v.col):=a8.ld
   have l10:s8.ld st.next 2=some (.string (mkS x.1.dir)):=a18.ld
   have l11:s8.ld st.next 3=some x.2.1:=a18.ld
   have lpl:s8.ld b 0=some (.int .i64 l.pl):=h8.row.ld
   have hnm:eqT (mkS v.nm) ⟨#[]⟩=decide (v.nm=[]):=zdx _
   have hlr:decide (1<(((v::r).length:Nat):Int))=decide (r≠[]):=by
    cases r with
    | nil=>rfl
    | cons a t=>rw [zdt (by simp;omega),zdt (by simp)]
   have fl:∀ st',zah cc zdj (ptr b 0) (.agg (lnRow x).toArray) st=some (.bool false,st')→Frm b i vw st st'→zcb l x.1=none→
     match zcb l x.1 with
     | none=>∃ st',cc 71 [ptr b 0,.agg (lnRow x).toArray] st=some (.bool false,st')∧Frm b i vw st st'
     | some l'=>∃ st' ve' vv',cc 71 [ptr b 0,.agg (lnRow x).toArray] st=some (.bool true,st')∧Bld st0 st' B b i vw ve' vv' l' its:=fun st' hc hfr hdn=>by
    rw [hdn];exact ⟨st',zaL _ _ st hc,hfr⟩
   by_cases d1:x.1.dir=[111,114,103]
   ·have q1:eqT (mkS x.1.dir) ⟨#[111,114,103]⟩=true:=zdt d1
    have hd:zcb l x.1=if v.nm=[]∧r=[]∧(l.pl:Int)≤v.x∧v.x≤2048 then some { l with pl:=v.x.toNat } else none:=by unfold zcb;rw [hargs];simp only;rw [if_pos d1]
    by_cases c1:v.nm=[]
    ·by_cases c2:r=[]
     ·by_cases c3:v.x<(l.pl:Int)
      ·refine fl s8 ?_ m8 (by rw [hd,if_neg (fun hh=>by omega)])
       simp only [zah,zaC,l3,hlen,zob,zdf hn1,zcf,b1,b2',e8',l9,l10,l11,zab,q1,zct,hnm,zdt c1,znt,hlr,zdf (show ¬ r≠[] from fun hh=>hh c2),l91,zaa,hnl,zaf,lpl,zdt c3]
      ·by_cases c4:2048<v.x
       ·refine fl s8 ?_ m8 (by rw [hd,if_neg (fun hh=>by omega)])
        simp only [zah,zaC,l3,hlen,zob,zdf hn1,zcf,b1,b2',e8',l9,l10,l11,zab,q1,zct,hnm,zdt c1,znt,hlr,zdf (show ¬ r≠[] from fun hh=>hh c2),l91,zaa,hnl,zaf,lpl,zdf c3,zdt c4]
       ·rw [hd,if_pos ⟨c1,c2,by omega,by omega⟩]
        obtain ⟨s21,e21,h21⟩:=h8.place v.x.toNat
        have ez:((v.x.toNat:Nat):Int)=v.x:=by omega
        rw [ez] at e21
        refine ⟨s21,ve,vv,zaL _ _ st ?_,h21⟩
        simp only [zah,zaC,l3,hlen,zob,zdf hn1,zcf,b1,b2',e8',l9,l10,l11,zab,q1,zct,hnm,zdt c1,znt,hlr,zdf (show ¬ r≠[] from fun hh=>hh c2),l91,zaa,hnl,zaf,lpl,zdf c3,zdf c4,e21]
     ·refine fl s8 ?_ m8 (by rw [hd,if_neg (fun hh=>c2 hh.2.1)])
      simp only [zah,zaC,l3,hlen,zob,zdf hn1,zcf,b1,b2',e8',l9,l10,l11,zab,zaa,q1,zct,hnm,zdt c1,znt,hlr,zdt (show r≠[] from c2)]
    ·refine fl s8 ?_ m8 (by rw [hd,if_neg (fun hh=>c1 hh.1)])
     simp only [zah,zaC,l3,hlen,zob,zdf hn1,zcf,b1,b2',e8',l9,l10,l11,zab,zaa,q1,zct,hnm,zdf c1,znf]
   have n1:eqT (mkS x.1.dir) ⟨#[111,114,103]⟩=false:=zdf d1
   by_cases d2:x.1.dir=[97,108,105,103,110]
   ·have q1:eqT (mkS x.1.dir) ⟨#[97,108,105,103,110]⟩=true:=zdt d2
    have hd:zcb l x.1=if v.nm=[]∧r=[]∧1≤v.x∧v.x≤2048∧(l.pl+v.x.toNat-1)/v.x.toNat*v.x.toNat≤2048 then some { l with pl:=(l.pl+v.x.toNat-1)/v.x.toNat*v.x.toNat } else none:=by unfold zcb;rw [hargs];simp only;rw [if_neg d1,if_pos d2]
    by_cases c1:v.nm=[]
    ·by_cases c2:r=[]
     ·have c2':=zdf (show ¬ r≠[] from fun hh=>hh c2)
      by_cases c3:v.x<1
      ·refine fl s8 ?_ m8 (by rw [hd,if_neg (fun hh=>by omega)])
       simp only [zah,zaC,l3,hlen,zob,zdf hn1,zcf,b1,b2',e8',l9,l10,l11,zab,zaa,n1,q1,zct,hnm,zdt c1,znt,hlr,c2',l91,zdt c3]
      ·by_cases c4:2048<v.x
       ·refine fl s8 ?_ m8 (by rw [hd,if_neg (fun hh=>by omega)])
        simp only [zah,zaC,l3,hlen,zob,zdf hn1,zcf,b1,b2',e8',l9,l10,l11,zab,zaa,n1,q1,zct,hnm,zdt c1,znt,hlr,c2',l91,zdf c3,zdt c4]
       ·have ez:((v.x.toNat:Nat):Int)=v.x:=by omega
        have hz:¬ (v.x=0):=by omega
        have e33:(aI .quo .i64 (IntKind.wrap .i64 (IntKind.wrap .i64 ((l.pl:Int)+v.x)-1)) v.x).bind (asI .i64)=some (((l.pl+v.x.toNat-1)/v.x.toNat:Nat):Int):=by
         have:=zrZ (p:=l.pl) (n:=v.x.toNat) hpl (by omega) (by omega)
         rw [ez] at this
         simp only [aI,zdf hz,zcf,zob,zaa,this]
         have hle:=znB (p:=l.pl) (n:=v.x.toNat) hpl (by omega) (by omega)
         have h1:(l.pl+v.x.toNat-1)/v.x.toNat≤(l.pl+v.x.toNat-1)/v.x.toNat*v.x.toNat:=Nat.le_mul_of_pos_right _ (by omega)
         have h0':=Int.natCast_nonneg ((l.pl+v.x.toNat-1)/v.x.toNat)
         have h1':(((l.pl+v.x.toNat-1)/v.x.toNat:Nat):Int)≤8192:=Int.ofNat_le.2 (zlt h1 hle)
         rw [wrap64 (Int.le_trans (by decide) h0') (Int.le_trans h1' (by decide))]
        have hle:=znB (p:=l.pl) (n:=v.x.toNat) hpl (by omega) (by omega)
        have e35:IntKind.wrap .i64 ((((l.pl+v.x.toNat-1)/v.x.toNat:Nat):Int)*v.x)=(((l.pl+v.x.toNat-1)/v.x.toNat*v.x.toNat:Nat):Int):=by
         rw [← ez]
         simp only [Int.toNat_natCast]
         rw [← Int.natCast_mul]
         exact wrap64 (by omega) (by omega)
        obtain ⟨s38,e38,h38,m38⟩:=h8.placeM ((l.pl+v.x.toNat-1)/v.x.toNat*v.x.toNat)
        have l41:s38.ld b 0=some (.int .i64 (((l.pl+v.x.toNat-1)/v.x.toNat*v.x.toNat:Nat):Int)):=h38.row.ld
        by_cases c5:(l.pl+v.x.toNat-1)/v.x.toNat*v.x.toNat≤2048
        ·rw [hd,if_pos ⟨c1,c2,by omega,by omega,c5⟩]
         have c5':(((l.pl+v.x.toNat-1)/v.x.toNat*v.x.toNat:Nat):Int)≤2048:=by omega
         refine ⟨s38,ve,vv,zaL _ _ st ?_,h38⟩
         simp only [zah,zaC,l3,hlen,zob,zdf hn1,zcf,b1,b2',e8',l9,l10,l11,zab,zaa,n1,q1,zct,hnm,zdt c1,znt,hlr,c2',l91,zdf c3,zdf c4,hnl,zaf,lpl,e33,e35,e38,l41,zdt c5']
        ·have c5':¬ (((l.pl+v.x.toNat-1)/v.x.toNat*v.x.toNat:Nat):Int)≤2048:=by omega
         refine fl s38 ?_ (m8.trans (.mod m38 (by simp))) (by rw [hd,if_neg (fun hh=>c5 hh.2.2.2.2)])
         simp only [zah,zaC,l3,hlen,zob,zdf hn1,zcf,b1,b2',e8',l9,l10,l11,zab,zaa,n1,q1,zct,hnm,zdt c1,znt,hlr,c2',l91,zdf c3,zdf c4,hnl,zaf,lpl,e33,e35,e38,l41,zdf c5']
     ·refine fl s8 ?_ m8 (by rw [hd,if_neg (fun hh=>c2 hh.2.1)])
      simp only [zah,zaC,l3,hlen,zob,zdf hn1,zcf,b1,b2',e8',l9,l10,l11,zab,zaa,n1,q1,zct,hnm,zdt c1,znt,hlr,zdt (show r≠[] from c2)]
    ·refine fl s8 ?_ m8 (by rw [hd,if_neg (fun hh=>c1 hh.1)])
     simp only [zah,zaC,l3,hlen,zob,zdf hn1,zcf,b1,b2',e8',l9,l10,l11,zab,zaa,n1,q1,zct,hnm,zdf c1,znf]
   have n2:eqT (mkS x.1.dir) ⟨#[97,108,105,103,110]⟩=false:=zdf d2
   have hr8:Rd s8 x.2.1 (rowsF valRow (v::r)) 3 (v::r).length:=hr1.ext x8
   by_cases d3:x.1.dir=[115,101,116]
   ·have q1:eqT (mkS x.1.dir) ⟨#[115,101,116]⟩=true:=zdt d3
    have hd:zcb l x.1=zqQ l v r:=zr0 hargs d1 d2 d3
    have no:(∀ y,r≠[y])→¬ ((((v::r).length:Nat):Int)=2)∧zcb l x.1=none:=fun hr=>by
     rw [hd]
     match r,hr with
     | [],_=>exact ⟨by simp,rfl⟩
     | [y],hr=>exact absurd rfl (hr y)
     | _::_::_,_=>exact ⟨by simp;omega,rfl⟩
    by_cases hy:∃ y,r=[y]
    ·obtain ⟨y,rfl⟩:=hy
     have hd:zcb l x.1=if v.nm≠[]∧v.x=0∧y.nm=[] then l.define v.nm y.x else none:=hd
     have h2:(((([v,y]:List Val).length:Nat)):Int)=2:=rfl
     by_cases c1:v.nm=[]
     ·refine fl s8 ?_ m8 (by rw [hd,if_neg (fun hh=>hh.1 c1)])
      simp only [zah,zaC,l3,hlen,zob,zdf hn1,zcf,b1,b2',e8',l9,l10,l11,zab,zaa,n1,n2,q1,zct,hnm,zdt h2,zdt c1,znt]
     ·by_cases c2:v.x=0
      ·obtain ⟨p46,t1,_,t3⟩:=hr8.load (j:=(1:Int)) (by omega) (by rw [h2];omega) (row:=valRow y) rfl rfl
       have t30:s8.ld p46.1 p46.2=some (.string (mkS y.nm)):=t3 0 (by omega)
       have t31:s8.ld p46.1 (p46.2+1)=some (.int .i64 y.x):=t3 1 (by omega)
       have hy0:eqT (mkS y.nm) ⟨#[]⟩=decide (y.nm=[]):=zdx _
       by_cases c3:y.nm=[]
       ·have hd':zcb l x.1=l.define v.nm y.x:=by rw [hd,if_pos ⟨c1,c2,c3⟩]
        have hdef:=h8.define v.nm y.x
        rw [hd']
        cases hdf:l.define v.nm y.x with
        | none=>
          rw [hdf] at hdef
          simp only at hdef
          refine ⟨s8,zaL _ _ st ?_,m8⟩
          simp only [zah,zaC,l3,hlen,zob,zdf hn1,zcf,b1,b2',e8',l9,l10,l11,zab,zaa,n1,n2,q1,zct,hnm,zdt h2,zdf c1,znf,l91,zdt c2,t1,t30,t31,hy0,zdt c3,hdef,zam]
        | some l'=>
          rw [hdf] at hdef
          obtain ⟨s9,c9,_,h9⟩:=hdef
          refine ⟨s9,ve,vv,zaL _ _ st ?_,h9⟩
          simp only [zah,zaC,l3,hlen,zob,zdf hn1,zcf,b1,b2',e8',l9,l10,l11,zab,zaa,n1,n2,q1,zct,hnm,zdt h2,zdf c1,znf,l91,zdt c2,t1,t30,t31,hy0,zdt c3,c9,zam]
       ·refine fl s8 ?_ m8 (by rw [hd,if_neg (fun hh=>c3 hh.2.2)])
        simp only [zah,zaC,l3,hlen,zob,zdf hn1,zcf,b1,b2',e8',l9,l10,l11,zab,zaa,n1,n2,q1,zct,hnm,zdt h2,zdf c1,znf,l91,zdt c2,t1,t30,hy0,zdf c3]
      ·refine fl s8 ?_ m8 (by rw [hd,if_neg (fun hh=>c2 hh.2.1)])
       simp only [zah,zaC,l3,hlen,zob,zdf hn1,zcf,b1,b2',e8',l9,l10,l11,zab,zaa,n1,n2,q1,zct,hnm,zdt h2,zdf c1,znf,l91,zdf c2]
    ·obtain ⟨h2,hdn⟩:=no fun y e=>hy ⟨y,e⟩
     refine fl s8 ?_ m8 hdn
     simp only [zah,zaC,l3,hlen,zob,zdf hn1,zcf,b1,b2',e8',l9,l10,l11,zab,zaa,n1,n2,q1,zct,hnm,zdf h2]
   ·have n3:eqT (mkS x.1.dir) ⟨#[115,101,116]⟩=false:=zdf d3
    by_cases d4:x.1.dir=[101,110,116,114,121]
    ·have q1:eqT (mkS x.1.dir) ⟨#[101,110,116,114,121]⟩=true:=zdt d4
     have hd:zcb l x.1=if v.nm≠[]∧r=[]∧v.x=0∧(l.ents.any fun e=>decide (e.1.nm=v.nm))=false then some { l with ents:=l.ents++[(v,x.1.ln,v.col)] } else none:=by unfold zcb;rw [hargs];simp only;rw [if_neg d1,if_neg d2,if_neg d3,if_pos d4]
     by_cases c1:v.nm=[]
     ·refine fl s8 ?_ m8 (by rw [hd,if_neg (fun hh=>hh.1 c1)])
      simp only [zah,zaC,l3,hlen,zob,zdf hn1,zcf,b1,b2',e8',l9,l10,l11,zab,zaa,n1,n2,n3,q1,zct,hnm,zdt c1]
     by_cases c2:r=[]
     ·have c2':=zdf (show ¬ r≠[] from fun hh=>hh c2)
      by_cases c3:v.x=0
      ·have l59:s8.ld b (0+4)=some vv:=h8.row.ld
       obtain ⟨n60,hn60,c60⟩:=zrY (l.ents.map (·.1)) (by simp;omega) v (st.new (.cells (lnRow x) 0)).next vv s8 (by have:=h8.ov.rd;simpa using this) a8.mem a8.lt
       have hany:((l.ents.map (·.1)).any fun x=>decide (x.nm=v.nm))=l.ents.any fun e=>decide (e.1.nm=v.nm):=by rw [List.any_map];rfl
       rw [hany] at c60
       cases ha:l.ents.any fun e=>decide (e.1.nm=v.nm) with
       | true=>
         rw [ha] at c60
         refine fl (s8.adv n60) ?_ (m8.trans (.ext ((Ext.refl _).adv hn60))) (by rw [hd,if_neg (fun hh=>by rw [ha] at hh;cases hh.2.2.2)])
         simp only [zah,zaC,l3,hlen,zob,zdf hn1,zcf,b1,b2',e8',l9,l10,l11,zab,zaa,n1,n2,n3,q1,zct,hnm,zdf c1,hlr,c2',l91,zdt c3,znt,hnl,zaf,l59,c60,zam]
       | false=>
         rw [ha] at c60
         rw [hd,if_pos ⟨c1,c2,c3,ha⟩]
         have x60:Ext s8 (s8.adv n60):=(Ext.refl _).adv hn60
         obtain ⟨vv',s1,s2,ve',s3,s4,g1,g2,g3,g4,g5,g6,g7,g8⟩:=(h8.then x60).entry v x.1.ln v.col hn
         have l64:(s8.adv n60).ld b (0+4)=some vv:=(h8.then x60).row.ld
         have l65:(s8.adv n60).ldN (st.new (.cells (lnRow x) 0)).next 0 3=some (.agg (valRow v).toArray):=(a8.ext x60).ldN rfl
         have e66:zaP (.agg (valRow v).toArray) 3=some (valRow v):=rfl
         have g2':s1.stV b (0+4) 1 vv'=some s2:=g2
         have g3':s2.ld b (0+3)=some ve:=g3
         have g6':(s2.new (.cells ([.int .i64 x.1.ln,.int .i64 v.col]) 2)).app 2 16 ve (.slice (some ⟨s2.next,0,none⟩) 1 1)=some (ve',s3):=g6
         have g7':s3.stV b (0+3) 1 ve'=some s4:=g7
         have hv0:∀ j,blkOf vv=some j→j<st.next:=fun j e=>(zb0 h.ov e).2
         have hbn:=h.row.lt
         have m75:=(g5 st.next (a18.ext x60).lt (fun e=>by have:=hv0 _ e;omega) (by omega)).trans (a18.ext x60).mem
         have m76:=(g5 (st.new (.cells (lnRow x) 0)).next (a8.ext x60).lt (fun e=>by have:=hv0 _ e;simp at this;omega) (by simp;omega)).trans (a8.ext x60).mem
         have l75:s2.ld st.next 0=some (.int .i64 x.1.ln):=by rw [SS.ld_cells m75];rfl
         have l76:s2.ld (st.new (.cells (lnRow x) 0)).next 2=some (.int .i64 v.col):=by rw [SS.ld_cells m76];rfl
         refine ⟨s4,ve',vv',zaL _ _ st ?_,g8⟩
         simp only [zah,zaC,l3,hlen,zob,zdf hn1,zcf,b1,b2',e8',l9,l10,l11,zab,zaa,n1,n2,n3,q1,zct,hnm,zdf c1,hlr,c2',l91,zdt c3,znt,hnl,zaf,l59,c60,zam,l64,l65,e66,List.append_nil,g1,g2',g3',l75,l76,g6',g7']
      ·refine fl s8 ?_ m8 (by rw [hd,if_neg (fun hh=>c3 hh.2.2.1)])
       simp only [zah,zaC,l3,hlen,zob,zdf hn1,zcf,b1,b2',e8',l9,l10,l11,zab,zaa,n1,n2,n3,q1,zct,hnm,zdf c1,hlr,c2',l91,zdf c3,znf]
     ·refine fl s8 ?_ m8 (by rw [hd,if_neg (fun hh=>c2 hh.2.1)])
      simp only [zah,zaC,l3,hlen,zob,zdf hn1,zcf,b1,b2',e8',l9,l10,l11,zab,zaa,n1,n2,n3,q1,zct,hnm,zdf c1,hlr,zdt (show r≠[] from c2)]
    ·have n4:eqT (mkS x.1.dir) ⟨#[101,110,116,114,121]⟩=false:=zdf d4
     refine fl s8 ?_ m8 (by unfold zcb;rw [hargs];simp only;rw [if_neg d1,if_neg d2,if_neg d3,if_neg d4])
     simp only [zah,zaC,l3,hlen,zob,zdf hn1,zcf,b1,b2',e8',l9,l10,zab,n1,n2,n3,n4]
end Go.Proofs.YtifploedaacedaaGreatDoorE
namespace Go.Proofs.YtifploedaacedaaGreatDoorE
open Go Go.E Go.Proofs
theorem zr1 (n:Nat) (x:Item):zaP (.agg ⟨spl [.int .i64 n,.int .i64 0,.string ⟨#[]⟩,.string ⟨#[]⟩,.slice none 0 0,.slice none 0 0] 1 (lnRow x)⟩) 6=some (wdRow (n,x)):=rfl
theorem Bld.rest [Sym] {st0 st:SS} {B b i:Nat} {vw ve vv:Value} {l:Lay} {its:List WItem} (h:Bld st0 st B b i vw ve vv l its) (x:Item) (hx:Rd st0 x.2.1 (rowsF valRow x.1.args) 3 x.1.args.length∧Rd st0 x.2.2 (rowsF prRow x.1.prs) 5 x.1.prs.length)
  (ho:one x.2.1=true∧one x.2.2=true) (hpl:l.pl≤2048) (hni:its.length≤100000):
  ∃ vw' s1 s2 s3,(st.new (.cells (wdRow (l.pl,x)) 6)).app 6 96 vw (.slice (some ⟨st.next,0,none⟩) 1 1)=some (vw',s1)∧s1.stV b 2 1 vw'=some s2∧s2.ld b 0=some (.int .i64 l.pl)∧s2.st b 0 [.int .i64 ((l.pl+1:Nat):Int)]=some s3∧s3.ld b 0=some (.int .i64 ((l.pl+1:Nat):Int))∧
   Bld st0 s3 B b i vw' ve vv { l with pl:=l.pl+1,wds:=l.wds++[(l.pl,x.1)] } (its++[(l.pl,x)])∧Frm b i vw st s3:=by
 obtain ⟨vw',s1,s2,g1,g2,g3,g6⟩:=h.word x hx ho hni
 obtain ⟨s3,g4,g5,g7⟩:=g3.placeM (l.pl+1)
 exact ⟨vw',s1,s2,s3,g1,g2,g3.row.ld,g4,g5.row.ld,g5,g6.trans (.mod g7 (by simp))⟩
noncomputable def zfL [Sym] (b':Value) (a:Nat) (s:SS):Option (Value×SS):=
 ((s.ld a 2).bind asS).bind fun b=>
  cond (!(eqT b ⟨#[]⟩)) (
   (s.ldN a 0 5).bind fun c=>
   (cc 71 [b',c] s).bind fun d=>
   ((some d.1).bind asB).bind fun e=>
   some (.bool e,d.2)) (
   (s.ld a 4).bind fun f=>
   ((lenV f).bind (asI .i64)).bind fun g=>
   cond (decide (g=0)) (
    some (.bool true,s)) (
    (zar b').bind fun h=>
    (addr? h).bind fun i=>
    (s.ld i.1 (i.2+2)).bind fun j=>
    (zar b').bind fun k=>
    (addr? k).bind fun l=>
    ((s.ld l.1 l.2).bind (asI .i64)).bind fun m=>
    (s.ldN a 0 5).bind fun n=>
    (zaP n 5).bind fun o=>
    (zaP (.agg ⟨spl [.int .i64 m,.int .i64 0,.string ⟨#[]⟩,.string ⟨#[]⟩,.slice none 0 0,.slice none 0 0] 1 o⟩) 6).bind fun p=>
    let q:SS:=s.new (.cells (p++([])) 6)
    (q.app 6 96 j (.slice (some ⟨s.next,0,none⟩) 1 1)).bind fun r=>
    (zar b').bind fun t=>
    (addr? t).bind fun u=>
    (r.2.stV u.1 (u.2+2) 1 r.1).bind fun v=>
    (zar b').bind fun w=>
    (addr? w).bind fun x=>
    ((v.ld x.1 x.2).bind (asI .i64)).bind fun y=>
    let z:Int:=IntKind.wrap .i64 (y+1)
    (zar b').bind fun A=>
    (addr? A).bind fun B=>
    (v.st B.1 B.2 [.int .i64 z]).bind fun C=>
    (zar b').bind fun D=>
    (addr? D).bind fun E=>
    ((C.ld E.1 E.2).bind (asI .i64)).bind fun F=>
    some (.bool (decide (F≤2048)),C)))
def zh9 (l:Lay) (x:PLine):Option Lay:=if x.dir≠[] then zcb l x else if x.prs=[] then some l else if l.pl+1≤2048 then some { l with pl:=l.pl+1,wds:=l.wds++[(l.pl,x)] } else none
theorem zoA [Sym] {st0 s:SS} {B b i a:Nat} {vw ve vv:Value} {l:Lay} {its:List WItem} (h:Bld st0 s B b i vw ve vv l its) (x:Item) (ha:At s a (lnRow x)) (hx:Rd st0 x.2.1 (rowsF valRow x.1.args) 3 x.1.args.length∧Rd st0 x.2.2 (rowsF prRow x.1.prs) 5 x.1.prs.length)
  (ho:one x.2.1=true∧one x.2.2=true) (hpl:l.pl≤2048) (hn:l.ents.length≤100000) (hni:its.length≤100000) (hsz:x.1.args.length≤100000):
  match zh9 l x.1 with
  | none=>∃ st',zfL (ptr b 0) a s=some (.bool false,st')∧Frm b i vw s st'
  | some l'=>∃ st' vw' ve' vv' its',zfL (ptr b 0) a s=some (.bool true,st')∧Bld st0 st' B b i vw' ve' vv' l' its'∧its'.length≤its.length+1:=by
 have l2:s.ld a 2=some (.string (mkS x.1.dir)):=ha.ld
 have l4:s.ld a 4=some x.2.2:=ha.ld
 have l5:s.ldN a 0 5=some (.agg (lnRow x).toArray):=ha.ldN rfl
 have hd0:eqT (mkS x.1.dir) ⟨#[]⟩=decide (x.1.dir=[]):=zdx _
 unfold zh9
 by_cases c1:x.1.dir=[]
 ·rw [if_neg (fun hh=>hh c1)]
  have hlen:(lenV x.2.2).bind (asI .i64)=some (x.1.prs.length:Int):=by rw [hx.2.len];rfl
  by_cases c2:x.1.prs=[]
  ·rw [if_pos c2]
   have h0:(x.1.prs.length:Int)=0:=by rw [c2];rfl
   refine ⟨s,vw,ve,vv,its,?_,h,by omega⟩
   simp only [zfL,l2,l4,zob,zab,hd0,zdt c1,znt,zcf,hlen,zdt h0,zct]
  ·rw [if_neg c2]
   have h0:¬ (x.1.prs.length:Int)=0:=fun e=>c2 (List.length_eq_zero_iff.1 (by omega))
   obtain ⟨vw',s1,s2,s3,g1,g2,g3,g4,g5,g6,g7⟩:=h.rest x hx ho hpl hni
   have hnl:zar (ptr b 0)=some (ptr b 0):=rfl
   have lw:s.ld b (0+2)=some vw:=h.row.ld
   have lp:s.ld b 0=some (.int .i64 l.pl):=h.row.ld
   have e5:zaP (.agg (lnRow x).toArray) 5=some (lnRow x):=rfl
   have e6:=zr1 l.pl x
   have g2':s1.stV b (0+2) 1 vw'=some s2:=g2
   have hw1:=zbf (i:=l.pl) (by omega)
   have run:zfL (ptr b 0) a s=some (.bool (decide (((l.pl+1:Nat):Int)≤2048)),s3):=by
    simp only [zfL,l2,l4,l5,zob,zab,zaa,hd0,zdt c1,znt,zcf,hlen,zdf h0,hnl,zaf,lw,lp,e5,e6,List.append_nil,g1,g2',g3,hw1,g4,g5]
   by_cases c3:l.pl+1≤2048
   ·rw [if_pos c3]
    have c3':((l.pl+1:Nat):Int)≤2048:=by omega
    exact ⟨s3,vw',ve,vv,_,by rw [run,zdt c3'],g6,by simp⟩
   ·rw [if_neg c3]
    have c3':¬ ((l.pl+1:Nat):Int)≤2048:=by omega
    exact ⟨s3,by rw [run,zdf c3'],g7⟩
 ·rw [if_pos c1]
  have hdir:=znC h x hx.1 (by omega) hn hsz
  cases hd:zcb l x.1 with
  | none=>
    rw [hd] at hdir
    obtain ⟨st',c,hfr⟩:=hdir
    refine ⟨st',?_,hfr⟩
    simp only [zfL,l2,l5,zob,zab,hd0,zdf c1,znf,zct,c,zam]
  | some l'=>
    rw [hd] at hdir
    obtain ⟨st',ve',vv',c,hb⟩:=hdir
    refine ⟨st',vw,ve',vv',its,?_,hb,by omega⟩
    simp only [zfL,l2,l5,zob,zab,hd0,zdf c1,znf,zct,c,zam]
theorem znD (l:Lay) (x:PLine):zh8 l x=(if x.lab=[] then some l else l.define x.lab l.pl).bind fun l=>zh9 l x:=rfl
theorem zod {l l':Lay} {n:List UInt8} {x:Int} (h:l.define n x=some l'):l'.pl=l.pl∧l'.ents=l.ents:=by
 unfold Lay.define at h
 split at h
 ·cases h
 ·cases h;exact ⟨rfl,rfl⟩
theorem zr2 [Sym] {st0 st:SS} {B b i:Nat} {vw ve vv:Value} {l:Lay} {its:List WItem} (h:Bld st0 st B b i vw ve vv l its) (x:Item) (hx:Rd st0 x.2.1 (rowsF valRow x.1.args) 3 x.1.args.length∧Rd st0 x.2.2 (rowsF prRow x.1.prs) 5 x.1.prs.length)
  (ho:one x.2.1=true∧one x.2.2=true) (hpl:l.pl≤2048) (hn:l.ents.length≤100000) (hni:its.length≤100000) (hsz:x.1.args.length≤100000):
  match zh8 l x.1 with
  | none=>∃ st',cc 43 [ptr b 0,.agg (lnRow x).toArray] st=some (.bool false,st')∧Frm b i vw st st'
  | some l'=>∃ st' vw' ve' vv' its',cc 43 [ptr b 0,.agg (lnRow x).toArray] st=some (.bool true,st')∧Bld st0 st' B b i vw' ve' vv' l' its'∧its'.length≤its.length+1:=by
 have hlm:st.lim≤st.next:=by rw [h.ext.lim];have:=h.ll;have:=h.ext.next;omega
 have x1:Ext st (st.new (.cells (lnRow x) 0)):=(Ext.refl st).new _
 have a1:At (st.new (.cells (lnRow x) 0)) st.next (lnRow x):=At.new hlm _
 have l1:(st.new (.cells (lnRow x) 0)).ld st.next 1=some (.string (mkS x.1.lab)):=a1.ld
 have hlb:eqT (mkS x.1.lab) ⟨#[]⟩=decide (x.1.lab=[]):=zdx _
 have h1:=h.then x1
 rw [znD]
 by_cases c1:x.1.lab=[]
 ·rw [if_pos c1,zob]
  have e:zbu cc zcK (ptr b 0) (.agg (lnRow x).toArray) st=zfL (ptr b 0) st.next (st.new (.cells (lnRow x) 0)):=by
   simp only [zbu,zaC,l1,zob,zab,hlb,zdt c1,znt,zcf]
   rfl
  have hr:=zoA h1 x a1 hx ho hpl hn hni hsz
  cases hl:zh9 l x.1 with
  | none=>
    rw [hl] at hr
    obtain ⟨st',c,hfr⟩:=hr
    exact ⟨st',zbv _ _ st (e.trans c),(Frm.ext x1).trans hfr⟩
  | some l'=>
    rw [hl] at hr
    obtain ⟨st',vw',ve',vv',its',c,r⟩:=hr
    exact ⟨st',vw',ve',vv',its',zbv _ _ st (e.trans c),r⟩
 ·rw [if_neg c1]
  have lp:(st.new (.cells (lnRow x) 0)).ld b 0=some (.int .i64 l.pl):=h1.row.ld
  have hnl:zar (ptr b 0)=some (ptr b 0):=rfl
  have hdef:=h1.define x.1.lab l.pl
  cases hd:l.define x.1.lab l.pl with
  | none=>
    rw [hd] at hdef
    simp only at hdef
    refine ⟨_,zbv _ _ st (r:=(.bool false,st.new (.cells (lnRow x) 0))) ?_,.ext x1⟩
    simp only [zbu,zaC,l1,zob,zab,zaa,hlb,zdf c1,znf,zct,hnl,zaf,lp,hdef,zam]
  | some l1'=>
    rw [hd] at hdef
    obtain ⟨s2,c2,m2,h2⟩:=hdef
    rw [zob]
    obtain ⟨e1,e2⟩:=zod hd
    have a2:At s2 st.next (lnRow x):=a1.mod m2 (by have:=h.iB;have:=h.BN;simp;omega)
    have e:zbu cc zcK (ptr b 0) (.agg (lnRow x).toArray) st=zfL (ptr b 0) st.next s2:=by
     simp only [zbu,zaC,l1,zob,zab,zaa,hlb,zdf c1,znf,zct,hnl,zaf,lp,c2,zam,znt,zcf]
     rfl
    have hr:=zoA h2 x a2 hx ho (by omega) (by rw [e2];exact hn) hni hsz
    cases hl:zh9 l1' x.1 with
    | none=>
      rw [hl] at hr
      obtain ⟨st',c,hfr⟩:=hr
      exact ⟨st',zbv _ _ st (e.trans c),((Frm.ext x1).trans (.mod m2 (by simp))).trans hfr⟩
    | some l'=>
      rw [hl] at hr
      obtain ⟨st',vw',ve',vv',its',c,r⟩:=hr
      exact ⟨st',vw',ve',vv',its',zbv _ _ st (e.trans c),r⟩
end Go.Proofs.YtifploedaacedaaGreatDoorE
namespace Go.Proofs.YtifploedaacedaaGreatDoorE
open Go Go.E Go.Proofs
def VOk (v:Val):Prop:=0<v.col∧ -2147483648≤v.x∧v.x≤2147483647
def POk (p:Pr):Prop:=0<p.col∧VOk p.v
structure LineOk (M:Nat) (x:PLine):Prop where
 args:∀ v∈x.args,VOk v
 prs:∀ p∈x.prs,POk p
 sa:x.args.length≤M
 sp:x.prs.length≤M
def zia (t:Tok):Prop:=TokOk t∧0<t.col
theorem zqR (k col:Nat) (l:List UInt8) (ts:List Tok) (h:zdd k col l=.ok ts):∀ t∈ts,0<t.col:=by
 induction k generalizing col l ts with
 | zero=>cases h;intro t ht;cases ht
 | succ k ih=>
   unfold zdd at h
   split at h
   ·cases h;intro t ht;cases ht
   ·exact ih _ _ _ h
   ·rename_i kd n x hs
    cases hx:zdd k (col+n) (l.drop n) with
    | error e=>rw [hx] at h;cases h
    | ok us=>
      rw [hx] at h;cases h
      intro t ht
      rcases List.mem_cons.1 ht with rfl | ht
      ·exact Nat.succ_pos _
      ·exact ih _ _ _ hx t ht
   ·cases h
theorem zr3 {p:List UInt8} {ts:List Tok} (h:zcq p=.ok ts):∀ t∈ts,zia t:=fun t ht=>by
 refine ⟨(znx h).2 t ht,?_⟩
 unfold zcq at h
 split at h
 ·rename_i us hu
  cases h
  rcases List.mem_append.1 ht with ht | ht
  ·exact zqR _ _ _ _ hu t ht
  ·have:t=zeS p:=by simpa using ht
   subst this
   exact Nat.succ_pos _
 ·cases h
theorem zmp {α:Type} {n:Nat} {l:List α} {x:α} (h:x∈l.drop n):x∈l:=List.mem_of_mem_drop h
theorem zoB {l:List Tok} (hl:∀ t∈l,zia t) {v:Val} {n:Nat} (h:zdy l=.ok (v,n)):VOk v:=by
 cases l with
 | nil=>cases h
 | cons t r=>
   rw [zfI] at h
   have ht:=hl t (by simp)
   have n0:=ht.1.nm0
   have n1:=ht.1.nm1
   split at h
   ·cases h;exact ⟨ht.2,by show -2147483648≤t.nm;omega,by show t.nm≤2147483647;omega⟩
   ·split at h
    ·cases r with
     | nil=>cases h
     | cons s u=>
       simp only at h
       split at h
       ·cases u with
        | nil=>cases h
        | cons m w=>
          simp only at h
          have hm:=(hl m (by simp)).1
          have m0:=hm.nm0
          have m1:=hm.nm1
          split at h
          ·cases h;exact ⟨ht.2,by show -2147483648≤m.nm;omega,by show m.nm≤2147483647;omega⟩
          ·cases h
       ·split at h
        ·cases u with
         | nil=>cases h
         | cons m w=>
           simp only at h
           have hm:=(hl m (by simp)).1
           have m0:=hm.nm0
           have m1:=hm.nm1
           split at h
           ·cases h;exact ⟨ht.2,by show -2147483648≤ -m.nm;omega,by show -m.nm≤2147483647;omega⟩
           ·cases h
        ·cases h;exact ⟨ht.2,by show (-2147483648:Int)≤0;omega,by show (0:Int)≤2147483647;omega⟩
    ·cases h
theorem zsY (k:Nat) (l:List Tok) (hl:∀ t∈l,zia t) (vs:List Val) (h:zcY k l=.ok vs):(∀ v∈vs,VOk v)∧vs.length≤k:=by
 induction k generalizing l vs with
 | zero=>cases h;exact ⟨fun v hv=>(by cases hv),zlr _⟩
 | succ k ih=>
   cases l with
   | nil=>cases h;exact ⟨fun v hv=>(by cases hv),by simp⟩
   | cons t r=>
     unfold zcY at h
     split at h
     ·cases h;exact ⟨fun v hv=>(by cases hv),by simp⟩
     ·cases hx:zdy (t::r) with
      | error o=>rw [hx] at h;cases h
      | ok y=>
        obtain ⟨v,n⟩:=y
        rw [hx] at h
        simp only at h
        cases hy:zcY k ((t::r).drop n) with
        | error o=>rw [hy] at h;cases h
        | ok us=>
          rw [hy] at h;cases h
          obtain ⟨h1,h2⟩:=ih _ (fun q hq=>hl q (zmp hq)) us hy
          refine ⟨fun w hw=>?_,by simp;omega⟩
          rcases List.mem_cons.1 hw with rfl | hw
          ·exact zoB hl hx
          ·exact h1 w hw
theorem zsZ {seen:List (List UInt8)} {l:List Tok} (hl:∀ t∈l,zia t) {p:Pr} {n:Nat} (h:pairT seen l=.ok (p,n)):POk p:=by
 cases l with
 | nil=>cases h
 | cons t r=>
   rw [zh2] at h
   split at h
   ·cases r with
    | nil=>cases h
    | cons e u=>
      simp only at h
      split at h
      ·cases hx:zdy u with
       | error o=>rw [hx] at h;cases h
       | ok y=>
         obtain ⟨v,m⟩:=y
         rw [hx] at h;cases h
         exact ⟨(hl t (by simp)).2,zoB (fun q hq=>hl q (by simp [hq])) hx⟩
      ·cases h
   ·cases h
theorem zr4 (k:Nat) (seen:List (List UInt8)) (l:List Tok) (hl:∀ t∈l,zia t) (ps:List Pr) (h:za9 k seen l=.ok ps):(∀ p∈ps,POk p)∧ps.length≤k:=by
 induction k generalizing seen l ps with
 | zero=>cases h;exact ⟨fun v hv=>(by cases hv),zlr _⟩
 | succ k ih=>
   cases l with
   | nil=>cases h;exact ⟨fun v hv=>(by cases hv),by simp⟩
   | cons t r=>
     unfold za9 at h
     split at h
     ·cases h;exact ⟨fun v hv=>(by cases hv),by simp⟩
     ·cases hx:pairT seen (t::r) with
      | error o=>rw [hx] at h;cases h
      | ok y=>
        obtain ⟨p,n⟩:=y
        rw [hx] at h
        simp only at h
        cases hy:za9 k (seen++[p.fd]) ((t::r).drop n) with
        | error o=>rw [hy] at h;cases h
        | ok us=>
          rw [hy] at h;cases h
          obtain ⟨h1,h2⟩:=ih _ _ (fun q hq=>hl q (zmp hq)) us hy
          refine ⟨fun w hw=>?_,by simp;omega⟩
          rcases List.mem_cons.1 hw with rfl | hw
          ·exact zsZ hl hx
          ·exact h1 w hw
theorem zlK {M:Nat} (lab:List UInt8) (l:List Tok) (hl:∀ t∈l,zia t) (hM:l.length≤M) (x:PLine) (h:zcF lab l=.ok x):LineOk M x:=by
 cases l with
 | nil=>cases h
 | cons t r=>
   rw [zdz] at h
   split at h
   ·cases r with
    | nil=>cases h
    | cons d u=>
      simp only at h
      split at h
      ·cases hx:zcY u.length u with
       | error o=>rw [hx] at h;cases h
       | ok vs=>
         rw [hx] at h;cases h
         obtain ⟨h1,h2⟩:=zsY _ _ (fun q hq=>hl q (by simp [hq])) vs hx
         simp only [List.length_cons] at hM
         exact ⟨h1,fun p hp=>(by cases hp),by show vs.length≤M;omega,by simp⟩
      ·cases h
   ·cases hx:za9 (t::r).length [] (t::r) with
    | error o=>rw [hx] at h;cases h
    | ok ps=>
      rw [hx] at h;cases h
      obtain ⟨h1,h2⟩:=zr4 _ _ _ hl ps hx
      exact ⟨fun p hp=>(by cases hp),h1,by simp,by show ps.length≤M;omega⟩
theorem zs3 {M:Nat} (l:List Tok) (hl:∀ t∈l,zia t) (hM:l.length≤M) (x:PLine) (h:readT l=.ok x):LineOk M x:=by
 unfold readT at h
 split at h
 ·rename_i t s r
  split at h
  ·split at h
   ·cases h
   ·rename_i y hy
    cases h
    simp only [List.length_cons] at hM
    exact zlK _ _ (fun q hq=>hl q (by simp [hq])) (by omega) _ hy
  ·exact zlK _ _ hl hM _ h
 ·exact zlK _ _ hl hM _ h
theorem zqS {M:Nat} (tss:List (List Tok)) (i:Nat) (hl:∀ ts∈tss,(∀ t∈ts,zia t)∧ts.length≤M) (xs:List PLine) (h:zcJ i tss=.ok xs):(∀ x∈xs,LineOk M x∧0<x.ln)∧xs.length≤tss.length:=by
 induction tss generalizing i xs with
 | nil=>cases h;exact ⟨fun v hv=>(by cases hv),zlr _⟩
 | cons ts r ih=>
   unfold zcJ at h
   cases hx:readT ts with
   | error o=>rw [hx] at h;cases h
   | ok x=>
     rw [hx] at h
     simp only at h
     cases hy:zcJ (i+1) r with
     | error e=>rw [hy] at h;cases h
     | ok ys=>
       rw [hy] at h;cases h
       obtain ⟨h1,h2⟩:=ih (i+1) (fun q hq=>hl q (by simp [hq])) ys hy
       obtain ⟨g1,g2⟩:=hl ts (by simp)
       have hv:=zs3 ts g1 g2 x hx
       split
       ·refine ⟨fun w hw=>?_,by simp;omega⟩
        rcases List.mem_cons.1 hw with rfl | hw
        ·exact ⟨⟨hv.args,hv.prs,hv.sa,hv.sp⟩,Nat.succ_pos _⟩
        ·exact h1 w hw
       ·exact ⟨h1,by simp;omega⟩
theorem zs4 (ps:List (List UInt8)) (M i:Nat) (hM:∀ p∈ps,p.length+1≤M) (tss:List (List Tok)) (h:zcv i ps=.ok tss):∀ ts∈tss,(∀ t∈ts,zia t)∧ts.length≤M:=by
 induction ps generalizing i tss with
 | nil=>cases h;intro ts hts;cases hts
 | cons p r ih=>
   unfold zcv at h
   cases hx:zcq p with
   | error c=>rw [hx] at h;cases h
   | ok ts=>
     rw [hx] at h
     cases hy:zcv (i+1) r with
     | error e=>rw [hy] at h;cases h
     | ok us=>
       rw [hy] at h;cases h
       intro ts' ht
       rcases List.mem_cons.1 ht with rfl | ht
       ·exact ⟨zr3 hx,zlt (zmh p _ hx) (hM p (by simp))⟩
       ·exact ih _ (fun q hq=>hM q (by simp [hq])) _ hy ts' ht
theorem zoC {l:List UInt8} {xs:List PLine} (h:zfH l=.ok xs):(∀ x∈xs,LineOk (l.length+1) x∧0<x.ln)∧xs.length≤l.length+1:=by
 unfold zfH at h
 cases hy:zcv 0 (pieces 10 l) with
 | error e=>rw [hy] at h;cases h
 | ok tss=>
   rw [hy] at h
   obtain ⟨h1,h2⟩:=zqS tss 0 (zs4 _ (l.length+1) _ (fun p hp=>by have:=zhT 10 l p hp;omega) tss hy) xs h
   exact ⟨h1,zlt h2 (by rw [zqI _ _ _ hy];exact pieces_len 10 l)⟩
def zfm (l:Lay):List PLine→Except (Nat×Nat) Lay
 | []=>.ok l
 | x::r=>match zh8 l x with
   | none=>.error (x.ln,1)
   | some l'=>zfm l' r
def zfn:Lay:=⟨0,[],[],[]⟩
structure LayOk (M:Nat) (l:Lay):Prop where
 pl:l.pl≤2048
 nms:NmsOk l.nms
 ris:l.wds.Pairwise fun a b=>a.1<b.1
 lt:∀ x∈l.wds,x.1<l.pl
 prs:∀ x∈l.wds,LineOk M x.2∧x.2.prs≠[]∧0<x.2.ln
 ent:∀ e∈l.ents,e.1.nm≠[]∧0<e.2.1∧0<e.2.2
theorem zlL (M:Nat):LayOk M zfn:=⟨by decide,fun x hx=>(by cases hx),List.Pairwise.nil,fun x hx=>(by cases hx),fun x hx=>(by cases hx),fun x hx=>(by cases hx)⟩
theorem Lay.define_ok {M:Nat} {l l':Lay} (h:LayOk M l) {n:List UInt8} {x:Int} (hx: -4294967296≤x∧x≤4294967296) (hd:l.define n x=some l'):LayOk M l'∧l'.pl=l.pl∧l'.ents=l.ents∧l'.wds=l.wds:=by
 unfold Lay.define at hd
 split at hd
 ·cases hd
 ·cases hd
  refine ⟨{ h with nms:=fun y hy=>?_ },rfl,rfl,rfl⟩
  rcases List.mem_append.1 hy with hy | hy
  ·exact h.nms y hy
  ·have:y=(n,x):=by simpa using hy
   subst this
   exact hx
theorem LayOk.place {M:Nat} {l:Lay} (h:LayOk M l) {p:Nat} (h1:l.pl≤p) (h2:p≤2048):LayOk M { l with pl:=p }:={ h with pl:=h2,lt:=fun x hx=>zll (h.lt x hx) h1 }
theorem zr5 {p n:Nat} (hn:1≤n):p≤(p+n-1)/n*n:=by
 have h1:=Nat.div_add_mod (p+n-1) n
 have h2:=Nat.mod_lt (p+n-1) (show 0<n by omega)
 have h3:n*((p+n-1)/n)=(p+n-1)/n*n:=Nat.mul_comm _ _
 omega
theorem zs5 {M:Nat} {l l':Lay} (h:LayOk M l) {x:PLine} (hx:LineOk M x) (h0:0<x.ln) (hd:zcb l x=some l'):LayOk M l'∧l'.ents.length≤l.ents.length+1:=by
 unfold zcb at hd
 cases ha:x.args with
 | nil=>rw [ha] at hd;cases hd
 | cons v r=>
   rw [ha] at hd
   simp only at hd
   have hv:=hx.args v (by rw [ha];simp)
   split at hd
   ·split at hd
    ·rename_i hc
     cases hd
     exact ⟨h.place (by omega) (by omega),by simp⟩
    ·cases hd
   ·split at hd
    ·split at hd
     ·rename_i hc
      cases hd
      exact ⟨h.place (zr5 (by omega)) hc.2.2.2.2,by simp⟩
     ·cases hd
    ·split at hd
     ·split at hd
      ·rename_i y
       split at hd
       ·have hy:=hx.args y (by rw [ha];simp)
        obtain ⟨g1,g2,g3,g4⟩:=Lay.define_ok h (by have:=hy.2;omega) hd
        exact ⟨g1,by rw [g3];omega⟩
       ·cases hd
      ·cases hd
     ·split at hd
      ·split at hd
       ·rename_i hc
        cases hd
        refine ⟨{ h with ent:=fun e he=>?_ },by simp⟩
        rcases List.mem_append.1 he with he | he
        ·exact h.ent e he
        ·have:e=(v,x.ln,v.col):=by simpa using he
         subst this
         exact ⟨hc.1,h0,hv.1⟩
       ·cases hd
      ·cases hd
theorem znE {M:Nat} {l l':Lay} (h:LayOk M l) {x:PLine} (hx:LineOk M x) (h0:0<x.ln) (hd:zh8 l x=some l'):LayOk M l'∧l'.ents.length≤l.ents.length+1:=by
 rw [znD] at hd
 have hlab:∃ l1,(if x.lab=[] then some l else l.define x.lab l.pl)=some l1∧LayOk M l1∧l1.ents=l.ents∧zh9 l1 x=some l':=by
  cases hc:(if x.lab=[] then some l else l.define x.lab l.pl) with
  | none=>rw [hc] at hd;cases hd
  | some l1=>
    rw [hc] at hd
    refine ⟨l1,rfl,?_⟩
    split at hc
    ·cases hc;exact ⟨h,rfl,hd⟩
    ·have:=h.pl
     obtain ⟨g1,g2,g3,g4⟩:=Lay.define_ok h (by omega) hc
     exact ⟨g1,g3,hd⟩
 obtain ⟨l1,_,h1,h2,h3⟩:=hlab
 rw [← h2]
 unfold zh9 at h3
 split at h3
 ·exact zs5 h1 hx h0 h3
 ·split at h3
  ·cases h3;exact ⟨h1,by omega⟩
  ·split at h3
   ·rename_i hp hpl
    cases h3
    refine ⟨⟨hpl,h1.nms,?_,fun y hy=>?_,fun y hy=>?_,h1.ent⟩,by simp⟩
    ·show List.Pairwise _ (l1.wds++[(l1.pl,x)])
     rw [List.pairwise_append]
     refine ⟨h1.ris,List.pairwise_singleton _ _,fun a ha b hb=>?_⟩
     have:b=(l1.pl,x):=by simpa using hb
     subst this
     exact h1.lt a ha
    ·show y.1<l1.pl+1
     rcases List.mem_append.1 hy with hy | hy
     ·have:=h1.lt y hy;omega
     ·have:y=(l1.pl,x):=by simpa using hy
      subst this
      exact Nat.lt_succ_self _
    ·rcases List.mem_append.1 hy with hy | hy
     ·exact h1.prs y hy
     ·have:y=(l1.pl,x):=by simpa using hy
      subst this
      exact ⟨hx,hp,h0⟩
   ·cases h3
theorem zoD {M:Nat} (xs:List PLine) (l l':Lay) (h:LayOk M l) (hx:∀ x∈xs,LineOk M x∧0<x.ln) (hd:zfm l xs=.ok l'):LayOk M l'∧l'.ents.length≤l.ents.length+xs.length:=by
 induction xs generalizing l with
 | nil=>cases hd;exact ⟨h,by simp⟩
 | cons x r ih=>
   unfold zfm at hd
   cases hc:zh8 l x with
   | none=>rw [hc] at hd;cases hd
   | some l1=>
     rw [hc] at hd
     obtain ⟨g1,g2⟩:=znE h (hx x (by simp)).1 (hx x (by simp)).2 hc
     obtain ⟨g3,g4⟩:=ih l1 g1 (fun y hy=>hx y (by simp [hy])) hd
     exact ⟨g3,by simp;omega⟩
theorem LayOk.wlen {M:Nat} {l:Lay} (h:LayOk M l):l.wds.length≤l.pl:=by
 have key:∀ (w:List (Nat×PLine)) (a p:Nat),a≤p→w.Pairwise (fun a b=>a.1<b.1)→(∀ x∈w,a≤x.1∧x.1<p)→w.length+a≤p:=by
  intro w
  induction w with
  | nil=>intro a p h _ _;simpa using h
  | cons x r ih=>
    intro a p h h1 h2
    rw [List.pairwise_cons] at h1
    have hx:=h2 x (by simp)
    have:=ih (x.1+1) p (by omega) h1.2 fun y hy=>⟨h1.1 y hy,(h2 y (by simp [hy])).2⟩
    simp only [List.length_cons]
    omega
 have:=key l.wds 0 l.pl (Nat.zero_le _) h.ris fun x hx=>⟨Nat.zero_le _,h.lt x hx⟩
 omega
def sizeT (l:Lay):Nat:=match l.wds.getLast? with | none=>0 | some x=>x.1+1
def zb1 (nms:Nms) (N:Nat):List (Nat×PLine)→List Wd→Except (Nat×Nat) (List Wd)
 | [],ws=>.ok ws
 | x::r,ws=>if (za0 nms zaK x.2.prs).2≠0 then .error (x.2.ln,(za0 nms zaK x.2.prs).2)
   else if ((zca ((za0 nms zaK x.2.prs).1.getD 8 0) ((za0 nms zaK x.2.prs).1.getD 10 0) x.1).any fun t=>decide ((N:Int)<t.1+t.2))=true then .error (x.2.ln,((x.2.prs.head?).map (·.col)).getD 0)
   else zb1 nms N r (ws.set x.1 (za0 nms zaK x.2.prs).1)
def zdY (nms:Nms) (N:Nat):List (Val×Nat×Nat)→Except (Nat×Nat) (List (List UInt8×Int))
 | []=>.ok []
 | e::r=>match zbd nms e.1.nm with
   | none=>.error e.2
   | some x=>if x<0∨(N:Int)≤x then .error e.2 else match zdY nms N r with
     | .error z=>.error z
     | .ok es=>.ok ((e.1.nm,x)::es)
def zgg (l:Lay):Except (Nat×Nat) (List Wd×List (List UInt8×Int)):=match zb1 l.nms (sizeT l) l.wds (List.replicate (sizeT l) zaK) with
 | .error z=>.error z
 | .ok ws=>match zdY l.nms (sizeT l) l.ents with
   | .error z=>.error z
   | .ok es=>.ok (ws,es)
def ziZ (t:List UInt8):Except (Nat×Nat) (List Wd×List (List UInt8×Int)):=match zfH t with
 | .error z=>.error z
 | .ok xs=>match zfm zfn xs with
   | .error z=>.error z
   | .ok l=>zgg l
theorem zkf {M:Nat} {l:Lay} (h:LayOk M l):(∀ x∈l.wds,x.1<sizeT l)∧sizeT l≤2048:=by
 unfold sizeT
 cases hg:l.wds.getLast? with
 | none=>
   have:l.wds=[]:=List.getLast?_eq_none_iff.1 hg
   rw [this]
   exact ⟨fun x hx=>(by cases hx),by simp⟩
 | some y=>
   obtain ⟨w,hw⟩:=List.getLast?_eq_some_iff.1 hg
   have hris:=h.ris
   rw [hw,List.pairwise_append] at hris
   have hy:=h.lt y (by rw [hw];simp)
   have hp:=h.pl
   refine ⟨fun x hx=>?_,by simp only;omega⟩
   rw [hw] at hx
   simp only
   rcases List.mem_append.1 hx with hx | hx
   ·have:=hris.2.2 x hx y (by simp);omega
   ·have:x=y:=by simpa using hx
    subst this
    omega
def zlM (w:Wd):Prop:=w.length=12∧zcE w=true
theorem zmq {w:Wd}:zcE w=true↔∀ k,k<12→fitsT (w.getD k 0) (zaH k)=true:=by
 unfold zcE
 rw [List.all_eq_true]
 exact ⟨fun h k hk=>h k (List.mem_range.2 hk),fun h k hk=>h k (List.mem_range.1 hk)⟩
theorem zqT {w:Wd} (hw:w.length=12) (hg:zcE w=true) (f:List UInt8) (x:Int) (h:(zby w f x).2=0):zcE (zby w f x).1=true:=by
 rw [zmq] at hg ⊢
 intro k hk
 unfold zby at h ⊢
 cases hf:zev f with
 | none=>rw [hf] at h;cases h
 | some i=>
   rw [hf] at h
   simp only at h
   obtain ⟨_,_,_,hi⟩:=zkb hf
   show fitsT ((if fitsT x (zaH i)=true then (w.set i x,(0:Int)) else (w,1)).1.getD k 0) _=true
   by_cases hfit:fitsT x (zaH i)=true
   ·rw [if_pos hfit]
    by_cases hki:k=i
    ·subst hki
     rw [List.getD_eq_getElem?_getD,List.getElem?_set_self (by omega)]
     exact hfit
    ·rw [List.getD_eq_getElem?_getD,List.getElem?_set_ne (fun e=>hki e.symm),← List.getD_eq_getElem?_getD]
     exact hg k hk
   ·rw [if_neg hfit] at h
    cases h
theorem zqU (nms:Nms) (prs:List Pr) (w:Wd) (hw:w.length=12) (hg:zcE w=true):zcE (za0 nms w prs).1=true:=by
 induction prs generalizing w with
 | nil=>exact hg
 | cons p r ih=>
   unfold za0
   split
   ·exact hg
   ·split
    ·exact hg
    ·split
     ·rename_i h;exact ih _ (by rw [zcA,hw]) (zqT hw hg _ _ h)
     ·exact hg
theorem znF:zlM zaK:=⟨rfl,by decide+kernel⟩
theorem zoE (nms:Nms) (prs:List Pr):zlM (za0 nms zaK prs).1:=⟨by rw [zke];rfl,zqU nms prs zaK rfl znF.2⟩
end Go.Proofs.YtifploedaacedaaGreatDoorE
namespace Go.Proofs.YtifploedaacedaaGreatDoorE
set_option maxRecDepth 100000
open Go Go.E Go.Proofs
def zb7:List UInt8:=[105,108,108,101,103,97,108]
def zb4:List UInt8:=[32,115,101,113,61,106,109,112,32,116,111,61]
def zeW (from0:Nat) (labels:List (List UInt8)):Nat→Nat→List UInt8
 | 0,_=>[]
 | k+1,i=>(zb4++(if from0≤i∧i-from0<labels.length then labels.getD (i-from0) [] else zb7)++[10])++zeW from0 labels k (i+1)
def zez (name:List UInt8) (from0:Nat) (labels:List (List UInt8)):List UInt8:=name++[58]++zeW from0 labels 64 0
def zcd:List (List UInt8):=[[105,108,108,101,103,97,108],[104,97,108,116],[110,111,112],[114,101,105],[98,112,116],[114,101,116],[114,115,98],[98,115,98],[98,114],[98,99,99],[106,115,98],[106,117,109,112],[111,110,101],[111,110,101],[116,119,111],[116,119,111],[116,115,116],[112,97,105,114],[99,118,116],[99,118,116],[109,111,118,97],[112,117,115,104,97],[112,117,115,104,108],[97,115,104],[114,111,116],[98,108,98],[98,98],[97,111,98],[115,111,98],[101,120,116],[105,110,115],[99,97,108,108,115],[112,117,115,104,114],[112,111,112,114],[109,111,118,112,115,108],[98,105,115],[98,105,99],[99,104,109,107],[109,116,112,114],[109,102,112,114],[109,111,118,99,51],[109,111,118,99,53],[99,109,112,99,51],[99,109,112,99,53],[108,111,99,99],[108,111,99,99]]
def zeA:List (List UInt8):=[[109,111,118,99,51,115],[109,111,118,99,53,115],[99,109,112,99,51,115],[99,109,112,99,53,115],[108,111,99,99,115],[115,107,112,99,115]]
def zk8:List UInt8:=[59,32,119,104,101,114,101,32,116,104,101,32,99,108,97,115,115,101,115,32,97,114,101,32,100,111,110,101,44,32,97,110,100,32,116,104,101,32,115,116,114,105,110,103,115,39,32,115,116,101,112,115,10]
def zlN:List UInt8:=zk8++zez [101,120,101,99] 0 zcd++zez [115,116,101,112,115] 40 zeA
def zi0:List (List UInt8):=[ucS0,zlN,ucS1,ucS2,ucS3,ucS4,ucS5,ucS6,ucS7]
def zkg:List UInt8:=zi0.flatten
end Go.Proofs.YtifploedaacedaaGreatDoorE
namespace Go.Proofs.YtifploedaacedaaGreatDoorE
set_option maxRecDepth 100000
open Go Go.E Go.Proofs
def zqV:List (List UInt8):=[[110,111,110,101],[109,111,118],[110,111,116],[110,101,103],[105,110,99],[100,101,99],[97,100,100],[115,117,98],[97,100,100,99],[115,117,98,99],[109,117,108],[100,105,118],[111,114],[98,105,99],[120,111,114],[97,110,100],[99,109,112],[116,101,115,116],[99,108,101,97,114],[115,120,98],[115,120,119],[122,120,98],[122,120,119],[115,104,108],[115,104,114],[97,115,104],[114,111,116],[111,112],[115,120,111],[101,120,116],[105,110,115],[99,118,116]]
theorem zqW:pieces 32 zpd=zqV:=by kernel_rfl
def zk9:List (List UInt8):=[[114,48],[114,49],[114,50],[114,51],[114,52],[114,53],[114,54],[114,55],[114,56],[114,57],[114,49,48],[114,49,49],[114,49,50],[114,49,51],[114,49,52],[114,49,53],[116,48],[116,49],[116,50],[116,51],[116,52],[116,53],[116,54],[116,55],[118,48],[118,49],[118,50],[118,51],[118,52],[118,53],[97,48],[97,49],[97,50],[97,51],[97,52],[97,53],[109,100],[118,97],[112,115,108],[114,110],[114,120],[108,105,116],[122,101,114,111],[118,101,99],[112,48],[112,49],[115,116,97,114,116],[115,99,98,98],[107,115,112],[117,115,112],[100,105,115,112],[111,115,105,122,101],[105,108,101,110],[108,101,118,101,108],[118,99],[97,99],[97,108],[107,108],[99,110,116],[110,112]]
theorem zqX:pieces 32 zhX=zk9:=by kernel_rfl
def zoF:List (List UInt8):=[[98,121,116,101],[119,111,114,100],[108,111,110,103],[111,119,110]]
theorem zpA:pieces 32 znq=zoF:=by kernel_rfl
def nc_cc:List (List UInt8):=[[107,101,101,112],[115,101,116],[115,101,116,107]]
theorem zr6:pieces 32 c_cc=nc_cc:=by kernel_rfl
def zqY:List (List UInt8):=[[110,111,110,101],[114,100],[119,114],[112,114,111,98,101],[98,108,100],[98,115,116],[98,112,117,116],[98,103,101,116],[98,99,108,114],[105,102],[114,100,112],[107,115,116],[114,111,119],[117,110,114,111,119],[114,111,119,97],[102,108,117,115,104]]
theorem zqZ:pieces 32 zpe=zqY:=by kernel_rfl
def zq0:List (List UInt8):=[[110,101,120,116],[106,109,112],[99,106],[99,97,108,108],[114,101,116],[115,112,101,99],[109,111,100,101],[101,110,100]]
theorem zq1:pieces 32 zpf=zq0:=by kernel_rfl
def zoG:List (List UInt8):=[[97,108,119,97,121,115],[122],[110,122],[110,101,103],[112,111,115],[99],[110,99],[117,115,101,114],[107,101,114,110,101,108],[102,112,100],[110,111,102,112,100],[116,97,107,101,110],[109,97,116,99,104],[107,49],[107,50],[107,51],[108,97,115,116,114,101,103],[102],[114,101,97,100,115],[105,110,100,101,120],[100,105,118],[108,101,115,115,97,108,117],[97,108,117,49],[115,116,114,105,110,103],[110,111,105,110,100,101,120],[110,111,114,101,97,100,115],[111,118,101,114]]
theorem zpB:pieces 32 znr=zoG:=by kernel_rfl
def zoH:List (List UInt8):=[[110,111,110,101],[115,116,101,112],[117,110,100,111],[115,101,116,102,112,100],[99,108,114,102,112,100],[114,97,105,115,101],[108,97,116,99,104,107],[108,97,116,99,104,120],[109,116,112,114],[109,102,112,114],[101,110,116,101,114],[112,117,116,112,115,108],[104,97,108,116],[98,97,99,107],[100,101,99,111,100,101],[115,101,108],[115,101,108,107],[111,119,110,108,97,115,116],[112,105,99,107],[112,105,99,107,116,111,112],[112,97,114,97,109,115],[99,111,117,110,116]]
theorem zpC:pieces 32 zns=zoH:=by kernel_rfl
def znG (f:List UInt8):List (List UInt8):=
 if f=[97,108,117] then zqV else
 if f=[97] then zk9 else
 if f=[98] then zk9 else
 if f=[100] then zk9 else
 if f=[115,105,122,101] then zoF else
 if f=[99,99] then nc_cc else
 if f=[109,101,109] then zqY else
 if f=[115,101,113] then zq0 else
 if f=[99,111,110,100] then zoG else
 if f=[109,105,115,99] then zoH else
 []
theorem zq2 (f:List UInt8):znG f=namesT f:=by
 unfold znG namesT
 rw [zqW,zqX,zpA,zr6,zqZ,zq1,zpB,zpC]
def numF (l:Nms) (f:List UInt8) (v:Val):Option Int:=
 if v.nm=[] then some v.x else match (znG f).findIdx? (fun x=>decide (x=v.nm)) with
  | some k=>some ((k:Int)+v.x)
  | none=>(zbd l v.nm).map (·+v.x)
theorem zs6 (l:Nms) (f:List UInt8) (v:Val):numF l f v=zeV l f v:=by
 unfold numF zeV
 by_cases h:v.nm=[]
 ·rw [if_pos h,if_pos h]
 ·rw [if_neg h,if_neg h,zq2]
  unfold inT
  cases (namesT f).findIdx? (fun x=>decide (x=v.nm)) with
  | none=>rfl
  | some k=>
    simp only
    rw [if_pos (by omega)]
def encF (l:Nms) (w:Wd):List Pr→Wd×Nat
 | []=>(w,0)
 | p::r=>if zfF p.fd=0 then (w,p.col) else match numF l p.fd p.v with
   | none=>(w,p.v.col)
   | some x=>if (zby w p.fd x).2=0 then encF l (zby w p.fd x).1 r else (w,p.v.col)
theorem zoI (l:Nms):∀ (prs:List Pr) (w:Wd),encF l w prs=za0 l w prs
 | [],w=>rfl
 | p::r,w=>by
   unfold encF za0
   rw [zs6]
   by_cases hb:zfF p.fd=0
   ·rw [if_pos hb,if_pos hb]
   ·rw [if_neg hb,if_neg hb]
    cases zeV l p.fd p.v with
    | none=>rfl
    | some x=>
      simp only
      rw [zoI l r]
def zla (nms:Nms) (N:Nat):List (Nat×PLine)→Option (List (Nat×Wd))
 | []=>some []
 | x::r=>match encF nms zaK x.2.prs with
   | (w,0)=>if ((zca (w.getD 8 0) (w.getD 10 0) x.1).any fun t=>decide ((N:Int)<t.1+t.2))=true then none else (zla nms N r).map ((x.1,w)::·)
   | _=>none
end Go.Proofs.YtifploedaacedaaGreatDoorE
namespace Go.Proofs.YtifploedaacedaaGreatDoorE
set_option maxRecDepth 1000000
open Go Go.E Go.Proofs
def znH:List (List UInt8):=[[102,101,116,99,104],[111,112,101,114,97,110,100],[98,114,97,110,99,104],[102,97,117,108,116],[105,110,116,101,114,114,117,112,116]]
def zq3 (l:Lay):Bool:=Nat.blt 0 (sizeT l)&&(zla l.nms (sizeT l) l.wds).isSome&&decide (l.ents.map (·.1.nm)=znH)&&l.ents.all fun e=>match zbd l.nms e.1.nm with | none=>false | some x=>decide (0≤x)&&decide (x<(sizeT l:Int))
def srcOk:Bool:=match zfH zkg with
 | .error _=>false
 | .ok xs=>match zfm zfn xs with
   | .error _=>false
   | .ok l=>zq3 l
theorem zpD:srcOk=true:=by kernel_rfl
end Go.Proofs.YtifploedaacedaaGreatDoorE
namespace Go.Proofs.YtifploedaacedaaGreatDoorE
open Go Go.E Go.Proofs
structure OL where
 v:Value
 c:List Value
 z:Nat
 n:Nat
structure Owns (B:Nat) (st:SS) (L:List OL):Prop where
 own:∀ (k:Nat) o,L[k]?=some o→Own B st o.v o.c o.z o.n
 dis:∀ (k m:Nat) a b j,L[k]?=some a→L[m]?=some b→blkOf a.v=some j→blkOf b.v=some j→k=m
section
variable {B : Nat} {st st' : SS} {L : List OL}
theorem Owns.ext (h:Owns B st L) (x:Ext st st'):Owns B st' L:=⟨fun k o e=>(h.own k o e).ext x,h.dis⟩
theorem Owns.modLt {S:List Nat} (h:Owns B st L) (m:Mod S st st') (hS:∀ j,j∈S→j<B):Owns B st' L:=⟨fun k o e=>(h.own k o e).modLt m hS,h.dis⟩
theorem Owns.push (h:Owns B st L) {k:Nat} {v:Value} {c row:List Value} {z n bt:Nat} (hk:L[k]?=some ⟨v,c,z,n⟩) (hb:B≤st.next) (hl:st.lim≤B) (hr:row.length=z) (hz:0<z) (h1:row.all one=true) (hs:(n+2)*bt≤2^44) (hn:n+1≤2^44):
  ∃ j s',(st.new (.cells row z)).app z bt v (.slice (some ⟨st.next,0,none⟩) 1 1)=some (.slice (some ⟨j,0,none⟩) (n+1) (n+1),s')∧Owns B s' (L.set k ⟨.slice (some ⟨j,0,none⟩) (n+1) (n+1),c++row,z,n+1⟩)∧Keep B [] st s':=by
 obtain ⟨j,s',g1,g2,g3,g4,g5,g6⟩:=zgf (row:=row) (bt:=bt) (h.own k _ hk) hb hl hr hz h1 hs hn
 have hlt:k<L.length:=(List.getElem?_eq_some_iff.1 hk).1
 have hget:∀ m o,(L.set k ⟨.slice (some ⟨j,0,none⟩) (n+1) (n+1),c++row,z,n+1⟩)[m]?=some o→(m=k∧o=⟨.slice (some ⟨j,0,none⟩) (n+1) (n+1),c++row,z,n+1⟩)∨(m≠k∧L[m]?=some o):=fun m o ho=>by
  by_cases hm:m=k
  ·subst hm
   rw [List.getElem?_set_self hlt] at ho
   cases ho;exact .inl ⟨rfl,rfl⟩
  ·rw [List.getElem?_set_ne (fun e=>hm e.symm)] at ho
   exact .inr ⟨hm,ho⟩
 refine ⟨j,s',g1,⟨fun m o ho=>?_,fun m1 m2 a b q h1 h2 q1 q2=>?_⟩,⟨g5,g4,fun i hi _=>g6 i (by omega) fun e=>by have:=(zb0 (h.own k _ hk) e).1;omega⟩⟩
 ·rcases hget m o ho with ⟨_,rfl⟩ | ⟨hm,ho⟩
  ·exact g3
  ·exact zd6 (h.own m o ho) g5 fun i hi e=>g6 i hi fun e'=>hm (h.dis m k _ _ i ho hk e e')
 ·rcases hget m1 a h1 with ⟨e1,rfl⟩ | ⟨e1,h1⟩<;>rcases hget m2 b h2 with ⟨e2,rfl⟩ | ⟨e2,h2⟩
  ·rw [e1,e2]
  ·cases q1
   have:=(zb0 (h.own m2 _ h2) q2).2
   omega
  ·cases q2
   have:=(zb0 (h.own m1 _ h1) q1).2
   omega
  ·exact h.dis m1 m2 a b q h1 h2 q1 q2
end
end Go.Proofs.YtifploedaacedaaGreatDoorE
namespace Go.Proofs.YtifploedaacedaaGreatDoorE
set_option maxRecDepth 20000
open Go Go.E Go.Proofs
def zei:LoopI:=⟨[(0,.any),(2,.any),(3,.any),(4,.any),(103,.any),(104,.int .i64),(105,.int .i64)],[(.exit 4,[(2,.any),(3,.any),(4,.any)]),(.ret,[(2,.any),(3,.any)])]⟩
def zej:LoopI:=⟨[(0,.any),(2,.any),(3,.any),(4,.any),(7,.any),(8,.any),(38,.any),(39,.int .i64),(40,.int .i64),(62,.any),(63,.int .i64),(64,.int .i64)],[(.exit 2,[(0,.any),(2,.any),(3,.any),(4,.any),(7,.any),(8,.any),(38,.any),(39,.int .i64),(40,.int .i64)]),(.ret,[(2,.any),(3,.any)])]⟩
def zeB:LoopI:=⟨[(0,.any),(2,.any),(3,.any),(4,.any),(38,.any),(39,.int .i64),(40,.int .i64)],[(.exit 0,[(0,.any),(2,.any),(3,.any),(4,.any)]),(.ret,[(2,.any),(3,.any)])]⟩
def zeI (n:Nat):Option LoopI:=cond (Nat.beq n 6) (some zeB) (cond (Nat.beq n 12) (some zej) (cond (Nat.beq n 20) (some zei) (none)))
noncomputable def zce (cf:zak) (lf:zac) (b':Value) (st:SS):Option (Value×SS):=
 let a:SS:=st.new (.cells [.slice none 0 0,.slice none 0 0] 0)
 let b:SS:=a.new (.cells [.int .i64 0,.int .i64 0] 0)
 let c:SS:=b.new (.cells [.slice none 0 0,.slice none 0 0] 0)
 (zar b').bind fun d=>
 (addr? d).bind fun e=>
 (c.ld e.1 (e.2+2)).bind fun f=>
 ((lenV f).bind (asI .i64)).bind fun g=>
 cond (decide (0<g)) (
 (zar b').bind fun h=>
 (addr? h).bind fun i=>
 (c.ld i.1 (i.2+2)).bind fun j=>
 let k:Int:=IntKind.wrap .i64 (g-1)
 (zas j k 6).bind fun l=>
 ((c.ld l.1 l.2).bind (asI .i64)).bind fun m=>
 let n:Int:=IntKind.wrap .i64 (m+1)
 (zdW n n 8).bind fun _=>
 let o:SS:=c.new (.cells (zdM [.int .u64 0] n) 1)
 (o.st b.next 0 [.slice (some ⟨c.next,0,none⟩) ((n:Int).toNat) ((n:Int).toNat)]).bind fun p=>
 (zar b').bind fun q=>
 (addr? q).bind fun r=>
 (p.ld r.1 (r.2+2)).bind fun s=>
 ((lenV s).bind (asI .i64)).bind fun t=>
 (lf 6 [b',ptr st.next 0,ptr a.next 0,ptr b.next 0,s,.int .i64 t,.int .i64 0] p).bind fun u=>
 cond (Nat.beq u.1 0) (
 (u.2.1[0]?).bind fun v=>
 (u.2.1[1]?).bind fun w=>
 (u.2.1[2]?).bind fun x=>
 (u.2.1[3]?).bind fun y=>
 (zar v).bind fun z=>
 (addr? z).bind fun A=>
 (u.2.2.ld A.1 (A.2+4)).bind fun B=>
 ((lenV B).bind (asI .i64)).bind fun C=>
 (lf 20 [v,w,x,y,B,.int .i64 C,.int .i64 0] u.2.2).bind fun D=>
 cond (Nat.beq D.1 0) (
 (D.2.1[0]?).bind fun E=>
 (D.2.1[1]?).bind fun F=>
 (D.2.1[2]?).bind fun G=>
 (addr? G).bind fun H=>
 (D.2.2.ldN H.1 H.2 2).bind fun I=>
 (addr? E).bind fun J=>
 (D.2.2.stV J.1 J.2 2 I).bind fun K=>
 (addr? F).bind fun L=>
 (K.st L.1 L.2 [.int .i64 0,.int .i64 0]).bind fun M=>
 (addr? E).bind fun N=>
 (M.rdN N.1 N.2 2).bind fun O=>
 (addr? F).bind fun P=>
 (M.rdN P.1 P.2 2).bind fun Q=>
 some (.tuple #[O,Q],M)) (
 (D.2.1[0]?).bind fun R=>
 (D.2.1[1]?).bind fun S=>
 (addr? R).bind fun T=>
 (D.2.2.rdN T.1 T.2 2).bind fun U=>
 (addr? S).bind fun V=>
 (D.2.2.rdN V.1 V.2 2).bind fun W=>
 some (.tuple #[U,W],D.2.2))) (
 (u.2.1[0]?).bind fun X=>
 (u.2.1[1]?).bind fun Y=>
 (addr? X).bind fun Z=>
 (u.2.2.rdN Z.1 Z.2 2).bind fun aA=>
 (addr? Y).bind fun aB=>
 (u.2.2.rdN aB.1 aB.2 2).bind fun aC=>
 some (.tuple #[aA,aC],u.2.2))) (
 (zar b').bind fun aD=>
 (addr? aD).bind fun aE=>
 (c.ld aE.1 (aE.2+2)).bind fun aF=>
 ((lenV aF).bind (asI .i64)).bind fun aG=>
 (lf 6 [b',ptr st.next 0,ptr a.next 0,ptr b.next 0,aF,.int .i64 aG,.int .i64 0] c).bind fun aH=>
 cond (Nat.beq aH.1 0) (
 (aH.2.1[0]?).bind fun aI=>
 (aH.2.1[1]?).bind fun aJ=>
 (aH.2.1[2]?).bind fun aK=>
 (aH.2.1[3]?).bind fun aL=>
 (zar aI).bind fun aM=>
 (addr? aM).bind fun aN=>
 (aH.2.2.ld aN.1 (aN.2+4)).bind fun aO=>
 ((lenV aO).bind (asI .i64)).bind fun aP=>
 (lf 20 [aI,aJ,aK,aL,aO,.int .i64 aP,.int .i64 0] aH.2.2).bind fun aQ=>
 cond (Nat.beq aQ.1 0) (
 (aQ.2.1[0]?).bind fun aR=>
 (aQ.2.1[1]?).bind fun aS=>
 (aQ.2.1[2]?).bind fun aT=>
 (addr? aT).bind fun aU=>
 (aQ.2.2.ldN aU.1 aU.2 2).bind fun aV=>
 (addr? aR).bind fun aW=>
 (aQ.2.2.stV aW.1 aW.2 2 aV).bind fun aX=>
 (addr? aS).bind fun aY=>
 (aX.st aY.1 aY.2 [.int .i64 0,.int .i64 0]).bind fun aZ=>
 (addr? aR).bind fun bA=>
 (aZ.rdN bA.1 bA.2 2).bind fun bB=>
 (addr? aS).bind fun bC=>
 (aZ.rdN bC.1 bC.2 2).bind fun bD=>
 some (.tuple #[bB,bD],aZ)) (
 (aQ.2.1[0]?).bind fun bE=>
 (aQ.2.1[1]?).bind fun bF=>
 (addr? bE).bind fun bG=>
 (aQ.2.2.rdN bG.1 bG.2 2).bind fun bH=>
 (addr? bF).bind fun bI=>
 (aQ.2.2.rdN bI.1 bI.2 2).bind fun bJ=>
 some (.tuple #[bH,bJ],aQ.2.2))) (
 (aH.2.1[0]?).bind fun bK=>
 (aH.2.1[1]?).bind fun bL=>
 (addr? bK).bind fun bM=>
 (aH.2.2.rdN bM.1 bM.2 2).bind fun bN=>
 (addr? bL).bind fun bO=>
 (aH.2.2.rdN bO.1 bO.2 2).bind fun bP=>
 some (.tuple #[bN,bP],aH.2.2)))
noncomputable abbrev zaj:zac:=lS Tryz.prog Lk0 Tryz.f44 zeI
theorem zim:Lk0.func 44=some (44,Tryz.f44):=by kernel_rfl
theorem zcj [Sym] (b':Value) (st:SS) {r:Value×SS} (h:zce cc zaj b' st=some r):cc 44 [b'] st=some r:=
 zad (li:=zeI) zai zaq zim rfl (fun _=>rfl) (.trans (by kernel_rfl) h)
noncomputable def zbI (cf:zak) (lf:zac) (b':Value) (t2':Value) (t3':Value) (r':Value) (t38':Value) (t39':Int) (t40':Int) (st:SS):Option (Nat×List Value×SS):=
 cond (decide (t40'<t39')) (
 (zas t38' t40' 6).bind fun a=>
 (st.ldN a.1 a.2 6).bind fun b=>
 let c:SS:=st.new (.cells [.int .i64 0,.int .i64 0,.string ⟨#[]⟩,.string ⟨#[]⟩,.slice none 0 0,.slice none 0 0] 0)
 (c.stV st.next 0 6 b).bind fun d=>
 (d.ldN st.next 1 5).bind fun e=>
 (cf 72 [b',e] d).bind fun f=>
 (zal f.1 0).bind fun g=>
 ((zal f.1 1).bind (asI .i64)).bind fun h=>
 let i:SS:=f.2.new (.cells [.int .i64 0,.int .i64 0,.int .i64 0,.int .i64 0,.int .i64 0,.int .i64 0,.int .i64 0,.int .i64 0,.int .i64 0,.int .i64 0,.int .i64 0,.int .i64 0] 0)
 (i.stV f.2.next 0 12 g).bind fun j=>
 cond (decide (0<h)) (
 ((j.ld st.next 1).bind (asI .i64)).bind fun k=>
 cond (zbp (ptr st.next 1) t2') (
 (addr? t2').bind fun l=>
 (j.st l.1 l.2 [.slice none 0 0,.slice none 0 0]).bind fun m=>
 (addr? t3').bind fun n=>
 (m.st n.1 n.2 [.int .i64 k,.int .i64 h]).bind fun o=>
 some (1,[t2',t3'],o)) (
 none)) (
 (j.ldN f.2.next 0 12).bind fun p=>
 ((j.ld st.next 0).bind (asI .i64)).bind fun q=>
 (cf 62 [p,.int .i64 q] j).bind fun r=>
 ((lenV r.1).bind (asI .i64)).bind fun s=>
 (lf 12 [b',t2',t3',r',ptr st.next 0,ptr f.2.next 0,t38',.int .i64 t39',.int .i64 t40',r.1,.int .i64 s,.int .i64 0] r.2).bind fun t=>
 cond (Nat.beq t.1 0) (
 (t.2.1[0]?).bind fun u=>
 (t.2.1[1]?).bind fun v=>
 (t.2.1[2]?).bind fun w=>
 (t.2.1[3]?).bind fun x=>
 (t.2.1[4]?).bind fun y=>
 (t.2.1[5]?).bind fun z=>
 (t.2.1[6]?).bind fun A=>
 ((t.2.1[7]?).bind (asI .i64)).bind fun B=>
 ((t.2.1[8]?).bind (asI .i64)).bind fun C=>
 (addr? x).bind fun D=>
 (t.2.2.ld D.1 D.2).bind fun E=>
 (addr? y).bind fun F=>
 ((t.2.2.ld F.1 F.2).bind (asI .i64)).bind fun G=>
 (addr? z).bind fun H=>
 (t.2.2.ldN H.1 H.2 12).bind fun I=>
 (cf 73 [I] (t.2.2.ro t.2.2.next)).bind fun J=>
 ((zal J.1 0).bind (asI .u64)).bind fun K=>
 ((zal J.1 1).bind (asI .i64)).bind fun L=>
 (zas E G 1).bind fun M=>
 ((J.2.ro t.2.2.lim).st M.1 M.2 [.int .u64 K]).bind fun N=>
 let O:Int:=IntKind.wrap .i64 (C+1)
 lf 6 [u,v,w,x,A,.int .i64 B,.int .i64 O] N) (
 (t.2.1[0]?).bind fun P=>
 (t.2.1[1]?).bind fun Q=>
 some (1,[P,Q],t.2.2)))) (
 some (0,[b',t2',t3',r'],st))
theorem zbQ [Sym] (b':Value) (t2':Value) (t3':Value) (r':Value) (t38':Value) (t39':Int) (t40':Int) (st:SS) {r:Nat×List Value×SS} (h:zbI cc zaj b' t2' t3' r' t38' t39' t40' st=some r):zaj 6 [b',t2',t3',r',t38',.int .i64 t39',.int .i64 t40'] st=some r:=
 zaA zai zaq (key:=6) (I:=zeB) rfl (by kernel_rfl) (by kernel_rfl) rfl rfl (.trans (by kernel_rfl) h)
noncomputable def zb5 (cf:zak) (lf:zac) (b':Value) (t2':Value) (t3':Value) (r':Value) (x':Value) (w':Value) (t38':Value) (t39':Int) (t40':Int) (t62':Value) (t63':Int) (t64':Int) (st:SS):Option (Nat×List Value×SS):=
 cond (decide (t64'<t63')) (
 (zas t62' t64' 2).bind fun a=>
 (st.ldN a.1 a.2 2).bind fun b=>
 let c:SS:=st.new (.cells [.int .i64 0,.int .i64 0] 0)
 (c.stV st.next 0 2 b).bind fun d=>
 (zbl (ptr st.next 0) 2 0 1).bind fun e=>
 ((d.ld e.1 e.2).bind (asI .i64)).bind fun f=>
 (zbl (ptr st.next 0) 2 1 1).bind fun g=>
 ((d.ld g.1 g.2).bind (asI .i64)).bind fun h=>
 let i:Int:=IntKind.wrap .i64 (f+h)
 (addr? r').bind fun j=>
 (d.ld j.1 j.2).bind fun k=>
 ((lenV k).bind (asI .i64)).bind fun l=>
 cond (decide (l<i)) (
 (addr? x').bind fun m=>
 ((d.ld m.1 (m.2+1)).bind (asI .i64)).bind fun n=>
 (addr? x').bind fun o=>
 (d.ld o.1 (o.2+1+4)).bind fun p=>
 (zas p 0 5).bind fun q=>
 ((d.ld q.1 (q.2+1)).bind (asI .i64)).bind fun r=>
 cond (zbp (ptr m.1 (m.2+1)) t2') (
 cond (zbp (ptr o.1 (o.2+1+4)) t2') (
 cond (zbp (ptr q.1 (q.2+1)) t2') (
 (addr? t2').bind fun s=>
 (d.st s.1 s.2 [.slice none 0 0,.slice none 0 0]).bind fun t=>
 (addr? t3').bind fun u=>
 (t.st u.1 u.2 [.int .i64 n,.int .i64 r]).bind fun v=>
 some (1,[t2',t3'],v)) (
 none)) (
 none)) (
 none)) (
 let w:Int:=IntKind.wrap .i64 (t64'+1)
 lf 12 [b',t2',t3',r',x',w',t38',.int .i64 t39',.int .i64 t40',t62',.int .i64 t63',.int .i64 w] d)) (
 some (0,[b',t2',t3',r',x',w',t38',.int .i64 t39',.int .i64 t40'],st))
theorem zcl [Sym] (b':Value) (t2':Value) (t3':Value) (r':Value) (x':Value) (w':Value) (t38':Value) (t39':Int) (t40':Int) (t62':Value) (t63':Int) (t64':Int) (st:SS) {r:Nat×List Value×SS} (h:zb5 cc zaj b' t2' t3' r' x' w' t38' t39' t40' t62' t63' t64' st=some r):zaj 12 [b',t2',t3',r',x',w',t38',.int .i64 t39',.int .i64 t40',t62',.int .i64 t63',.int .i64 t64'] st=some r:=
 zaA zai zaq (key:=12) (I:=zej) rfl (by kernel_rfl) (by kernel_rfl) rfl rfl (.trans (by kernel_rfl) h)
noncomputable def zbe (cf:zak) (lf:zac) (b':Value) (t2':Value) (t3':Value) (r':Value) (t103':Value) (t104':Int) (t105':Int) (st:SS):Option (Nat×List Value×SS):=
 cond (decide (t105'<t104')) (
 (zas t103' t105' 3).bind fun a=>
 (st.ldN a.1 a.2 3).bind fun b=>
 let c:SS:=st.new (.cells [.string ⟨#[]⟩,.int .i64 0,.int .i64 0] 0)
 (c.stV st.next 0 3 b).bind fun d=>
 (zar b').bind fun e=>
 (addr? e).bind fun f=>
 (d.ld f.1 (f.2+1)).bind fun g=>
 ((d.ld st.next 0).bind asS).bind fun h=>
 (d.mapF g h).bind fun i=>
 zeo i (
 (zar b').bind fun j=>
 (addr? j).bind fun k=>
 (d.ld k.1 (k.2+3)).bind fun l=>
 (zas l t105' 2).bind fun m=>
 (d.ldN m.1 m.2 2).bind fun n=>
 cond (zbp (ptr k.1 (k.2+3)) t2') (
 cond (zbp (ptr m.1 m.2) t2') (
 (addr? t2').bind fun o=>
 (d.st o.1 o.2 [.slice none 0 0,.slice none 0 0]).bind fun p=>
 (addr? t3').bind fun q=>
 (p.stV q.1 q.2 2 n).bind fun r=>
 some (1,[t2',t3'],r)) (
 none)) (
 none)) (fun s=>
 ((zal (.tuple #[s,.bool true]) 0).bind (asI .i64)).bind fun t=>
 cond (decide (t<0)) (
 (zar b').bind fun u=>
 (addr? u).bind fun v=>
 (d.ld v.1 (v.2+3)).bind fun w=>
 (zas w t105' 2).bind fun x=>
 (d.ldN x.1 x.2 2).bind fun y=>
 cond (zbp (ptr v.1 (v.2+3)) t2') (
 cond (zbp (ptr x.1 x.2) t2') (
 (addr? t2').bind fun z=>
 (d.st z.1 z.2 [.slice none 0 0,.slice none 0 0]).bind fun A=>
 (addr? t3').bind fun B=>
 (A.stV B.1 B.2 2 y).bind fun C=>
 some (1,[t2',t3'],C)) (
 none)) (
 none)) (
 (addr? r').bind fun D=>
 (d.ld D.1 D.2).bind fun E=>
 ((lenV E).bind (asI .i64)).bind fun F=>
 cond (decide (F≤t)) (
 (zar b').bind fun G=>
 (addr? G).bind fun H=>
 (d.ld H.1 (H.2+3)).bind fun I=>
 (zas I t105' 2).bind fun J=>
 (d.ldN J.1 J.2 2).bind fun K=>
 cond (zbp (ptr H.1 (H.2+3)) t2') (
 cond (zbp (ptr J.1 J.2) t2') (
 (addr? t2').bind fun L=>
 (d.st L.1 L.2 [.slice none 0 0,.slice none 0 0]).bind fun M=>
 (addr? t3').bind fun N=>
 (M.stV N.1 N.2 2 K).bind fun O=>
 some (1,[t2',t3'],O)) (
 none)) (
 none)) (
 (addr? r').bind fun P=>
 (d.ld P.1 (P.2+1)).bind fun Q=>
 ((d.ld st.next 0).bind asS).bind fun R=>
 let S:SS:=d.new (.cells ([.string R,.int .i64 t]) 2)
 (S.app 2 24 Q (.slice (some ⟨d.next,0,none⟩) 1 1)).bind fun T=>
 (addr? r').bind fun U=>
 (T.2.stV U.1 (U.2+1) 1 T.1).bind fun V=>
 let W:Int:=IntKind.wrap .i64 (t105'+1)
 lf 20 [b',t2',t3',r',t103',.int .i64 t104',.int .i64 W] V)))) (
 some (0,[t2',t3',r'],st))
theorem zbg [Sym] (b':Value) (t2':Value) (t3':Value) (r':Value) (t103':Value) (t104':Int) (t105':Int) (st:SS) {r:Nat×List Value×SS} (h:zbe cc zaj b' t2' t3' r' t103' t104' t105' st=some r):zaj 20 [b',t2',t3',r',t103',.int .i64 t104',.int .i64 t105'] st=some r:=
 zaA zai zaq (key:=20) (I:=zei) rfl (by kernel_rfl) (by kernel_rfl) rfl rfl (.trans (by kernel_rfl) h)
def zfq:LoopI:=⟨[(2,.any),(3,.any),(8,.any),(27,.any),(28,.int .i64),(29,.int .i64)],[(.exit 0,[(2,.any),(3,.any),(8,.any)]),(.ret,[(2,.any),(3,.any),(4,.int .i64)])]⟩
def zgh (n:Nat):Option LoopI:=cond (Nat.beq n 6) (some zfq) (none)
noncomputable def zc6 (cf:zak) (lf:zac) (text':ByteArray) (st:SS):Option (Value×SS):=
 let a:SS:=st.new (.cells [.slice none 0 0,.slice none 0 0] 0)
 let b:SS:=a.new (.cells [.int .i64 0,.int .i64 0] 0)
 (cf 42 [.string text'] b).bind fun c=>
 (zal c.1 0).bind fun d=>
 (zal c.1 1).bind fun e=>
 ((zal c.1 2).bind (asI .i64)).bind fun f=>
 let g:SS:=c.2.new (.cells [.int .i64 0,.int .i64 0] 0)
 (g.stV c.2.next 0 2 e).bind fun h=>
 cond (!(decide (f=0))) (
 (h.ldN c.2.next 0 2).bind fun i=>
 cond (zbp (ptr c.2.next 0) (ptr st.next 0)) (
 (h.st st.next 0 [.slice none 0 0,.slice none 0 0]).bind fun j=>
 (j.stV a.next 0 2 i).bind fun k=>
 (k.rdN st.next 0 2).bind fun l=>
 (k.rdN a.next 0 2).bind fun m=>
 some (.tuple #[l,m,.int .i64 f],k)) (
 none)) (
 let n:SS:=h.new (.map [])
 let o:SS:=n.new (.cells [.int .i64 0,.map (some h.next),.slice none 0 0,.slice none 0 0,.slice none 0 0] 0)
 ((lenV d).bind (asI .i64)).bind fun p=>
 (lf 6 [ptr st.next 0,ptr a.next 0,ptr n.next 0,d,.int .i64 p,.int .i64 0] o).bind fun q=>
 cond (Nat.beq q.1 0) (
 (q.2.1[0]?).bind fun s=>
 (q.2.1[1]?).bind fun t=>
 (q.2.1[2]?).bind fun u=>
 (cf 44 [u] q.2.2).bind fun v=>
 (zal v.1 0).bind fun w=>
 (zal v.1 1).bind fun x=>
 let y:SS:=v.2.new (.cells [.slice none 0 0,.slice none 0 0] 0)
 let z:SS:=y.new (.cells [.int .i64 0,.int .i64 0] 0)
 (z.stV v.2.next 0 2 w).bind fun A=>
 (A.stV y.next 0 2 x).bind fun B=>
 (B.ldN y.next 0 2).bind fun C=>
 (((eqA Tryz.prog Lk0 97 C (.agg #[.int .i64 0,.int .i64 0])).bind fun r=>some (.bool !r)).bind asB).bind fun D=>
 cond D (
 (B.ldN y.next 0 2).bind fun E=>
 cond (zbp (ptr y.next 0) s) (
 (addr? s).bind fun F=>
 (B.st F.1 F.2 [.slice none 0 0,.slice none 0 0]).bind fun G=>
 (addr? t).bind fun H=>
 (G.stV H.1 H.2 2 E).bind fun I=>
 (addr? s).bind fun J=>
 (I.rdN J.1 J.2 2).bind fun K=>
 (addr? t).bind fun L=>
 (I.rdN L.1 L.2 2).bind fun M=>
 some (.tuple #[K,M,.int .i64 4],I)) (
 none)) (
 (B.ldN v.2.next 0 2).bind fun N=>
 (addr? s).bind fun O=>
 (B.stV O.1 O.2 2 N).bind fun P=>
 (addr? t).bind fun Q=>
 (P.st Q.1 Q.2 [.int .i64 0,.int .i64 0]).bind fun R=>
 (addr? s).bind fun S=>
 (R.rdN S.1 S.2 2).bind fun T=>
 (addr? t).bind fun U=>
 (R.rdN U.1 U.2 2).bind fun V=>
 some (.tuple #[T,V,.int .i64 0],R))) (
 (q.2.1[0]?).bind fun W=>
 (q.2.1[1]?).bind fun X=>
 ((q.2.1[2]?).bind (asI .i64)).bind fun Y=>
 (addr? W).bind fun Z=>
 (q.2.2.rdN Z.1 Z.2 2).bind fun aA=>
 (addr? X).bind fun aB=>
 (q.2.2.rdN aB.1 aB.2 2).bind fun aC=>
 some (.tuple #[aA,aC,.int .i64 Y],q.2.2)))
noncomputable abbrev zba:zac:=lS Tryz.prog Lk0 Tryz.f16 zgh
theorem zkh:Lk0.func 16=some (16,Tryz.f16):=by kernel_rfl
theorem zc0 [Sym] (text':ByteArray) (st:SS) {r:Value×SS} (h:zc6 cc zba text' st=some r):cc 16 [.string text'] st=some r:=
 zad (li:=zgh) zai zaq zkh rfl (fun _=>rfl) (.trans (by kernel_rfl) h)
noncomputable def zc1 (cf:zak) (lf:zac) (t2':Value) (t3':Value) (b':Value) (t27':Value) (t28':Int) (t29':Int) (st:SS):Option (Nat×List Value×SS):=
 cond (decide (t29'<t28')) (
 (zas t27' t29' 5).bind fun a=>
 (st.ldN a.1 a.2 5).bind fun b=>
 let c:SS:=st.new (.cells [.int .i64 0,.string ⟨#[]⟩,.string ⟨#[]⟩,.slice none 0 0,.slice none 0 0] 0)
 (c.stV st.next 0 5 b).bind fun d=>
 (d.ldN st.next 0 5).bind fun e=>
 (cf 43 [b',e] d).bind fun f=>
 ((some f.1).bind asB).bind fun g=>
 cond (!g) (
 ((f.2.ld st.next 0).bind (asI .i64)).bind fun h=>
 cond (zbp (ptr st.next 0) t2') (
 (addr? t2').bind fun i=>
 (f.2.st i.1 i.2 [.slice none 0 0,.slice none 0 0]).bind fun j=>
 (addr? t3').bind fun k=>
 (j.st k.1 k.2 [.int .i64 h,.int .i64 1]).bind fun l=>
 some (1,[t2',t3',.int .i64 4],l)) (
 none)) (
 let m:Int:=IntKind.wrap .i64 (t29'+1)
 lf 6 [t2',t3',b',t27',.int .i64 t28',.int .i64 m] f.2)) (
 some (0,[t2',t3',b'],st))
theorem zdg [Sym] (t2':Value) (t3':Value) (b':Value) (t27':Value) (t28':Int) (t29':Int) (st:SS) {r:Nat×List Value×SS} (h:zc1 cc zba t2' t3' b' t27' t28' t29' st=some r):zba 6 [t2',t3',b',t27',.int .i64 t28',.int .i64 t29'] st=some r:=
 zaA zai zaq (key:=6) (I:=zfq) rfl (by kernel_rfl) (by kernel_rfl) rfl rfl (.trans (by kernel_rfl) h)
noncomputable def zbx (cf:zak) (lf:zac) (l':Value) (name':ByteArray) (n':Int) (st:SS):Option (Value×SS):=
 (zar l').bind fun a=>
 (addr? a).bind fun b=>
 (st.ld b.1 b.2).bind fun c=>
 (cf 47 [c,.string name'] st).bind fun d=>
 ((some d.1).bind (asI .i64)).bind fun e=>
 cond (decide (0≤e)) (
 some (.bool false,d.2)) (
 cond (eqT name' ⟨#[]⟩) (
 some (.bool false,d.2)) (
 (zar l').bind fun f=>
 (addr? f).bind fun g=>
 (d.2.ld g.1 g.2).bind fun h=>
 let i:SS:=d.2.new (.cells ([.string name']) 1)
 (i.app 1 16 h (.slice (some ⟨d.2.next,0,none⟩) 1 1)).bind fun j=>
 (zar l').bind fun k=>
 (addr? k).bind fun l=>
 (j.2.stV l.1 l.2 1 j.1).bind fun m=>
 (zar l').bind fun n=>
 (addr? n).bind fun o=>
 (m.ld o.1 (o.2+1)).bind fun p=>
 let q:SS:=m.new (.cells ([.int .i64 n']) 1)
 (q.app 1 8 p (.slice (some ⟨m.next,0,none⟩) 1 1)).bind fun r=>
 (zar l').bind fun s=>
 (addr? s).bind fun t=>
 (r.2.stV t.1 (t.2+1) 1 r.1).bind fun u=>
 some (.bool true,u)))
noncomputable abbrev zeX:zac:=lS Tryz.prog Lk0 Tryz.f74 zaw
theorem zeY:Lk0.func 74=some (74,Tryz.f74):=by kernel_rfl
theorem zbK [Sym] (l':Value) (name':ByteArray) (n':Int) (st:SS) {r:Value×SS} (h:zbx cc zeX l' name' n' st=some r):cc 74 [l',.string name',.int .i64 n'] st=some r:=
 zad (li:=zaw) zai zaq zeY rfl (fun _=>rfl) (.trans (by kernel_rfl) h)
end Go.Proofs.YtifploedaacedaaGreatDoorE
