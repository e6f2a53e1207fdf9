/- Parts of the proof of UasmReaches, packed by a program: an evaluator over the given code, functions as plain texts, their laws. -/
import Derived.Test.YtifploedaacedaaGreatDoorPRC
set_option linter.unusedVariables false
set_option linter.unusedSimpArgs false
namespace Go.Proofs.YtifploedaacedaaGreatDoorE
open Go Go.E Go.Proofs
def plRow (b:Nat):List Value:=(List.range 12).map fun i=>ptr b i
theorem zkH (b:Nat) {k:Nat} (h:k<12):(plRow b)[k]?=some (ptr b k):=by
 unfold plRow
 rw [List.getElem?_map,List.getElem?_range h];rfl
theorem zh2 [Sym] (b:Nat) (st:SS):cc 53 [ptr b 0] st=some (.slice (some ⟨st.next,0,none⟩) 12 12,st.new (.cells (plRow b) 1)):=by
 refine zmR _ st ?_
 have h1:zav (ptr b 0)=some (ptr b 0):=rfl
 simp only [zkE,h1,zob,zad]
 rfl
def fitsT (x:Int) (n:Nat):Bool:=decide (0≤x∧x<2^n)
theorem zqa [Sym] (x:Int) (n:Nat) (hn:n≤62) (st:SS):cc 118 [.int .i64 x,.int .i64 n] st=some (.bool (fitsT x n),st.adv st.next):=by
 refine zoq _ _ st ?_
 by_cases h:0≤x
 ·have hb:¬ ((n:Int)<0):=by omega
  have h1:(aI .shr .i64 x (n:Int)).bind (asI .i64)=some (x/2^n):=by
   have e:min ((n:Int)).toNat (IntKind.bits .i64)=n:=by
    show min ((n:Int)).toNat 64=n
    rw [Int.toNat_natCast];omega
   have e2:zni .i64 x (n:Int)=x/2^n:=by
    unfold zni
    rw [e]
    exact Int.fdiv_eq_ediv_of_nonneg x (Int.pow_nonneg (by omega))
   simp only [aI,zdf hb,zcf,zob,zaa,e2]
  have e3:decide (x/2^n=0)=fitsT x n:=by
   unfold fitsT
   have hp:(0:Int)<2^n:=Int.pow_pos (by omega)
   by_cases hx:x<2^n
   ·rw [zdt (Int.ediv_eq_zero_of_lt h hx),zdt ⟨h,hx⟩]
   ·rw [zdf (fun hc=>hx ?_),zdf (fun hc=>hx hc.2)]
    have:=Int.lt_ediv_add_one_mul_self x hp
    rw [hc] at this
    omega
  simp only [zjD,zdt h,zct,h1,zob,e3]
  rfl
 ·have e3:fitsT x n=false:=zdf (fun hc=>h hc.1)
  simp only [zjD,zdf h,zcf,e3]
  rfl
theorem zh3 (k:Nat):zaz k≤11:=by
 by_cases h:k<12
 ·have:∀ k,k<12→zaz k≤11:=by decide+kernel
  exact this k h
 ·unfold zaz
  rw [List.getElem?_eq_none (by show 12≤k;omega)]
  decide
def zcc (w:Wd) (f:List UInt8) (x:Int):Wd×Int:=match zfW f with
 | none=>(w,5)
 | some k=>if fitsT x (zaz k)=true then (w.set k x,0) else (w,1)
theorem zdw (w:Wd) (f:List UInt8) (x:Int):(zcc w f x).1.length=w.length:=by
 unfold zcc
 repeat' split
 all_goals simp
theorem zmT (w:Wd) (z:Int):flat3 (.tuple #[wV w,.int .i64 z])=true:=by
 have:zaw (wV w)=true:=by
  show ((wRow w).toArray.toList.all zbd)=true
  simp [wRow,zbd]
 show ([wV w,.int .i64 z].all zaw)=true
 simp only [List.all_cons,this,Bool.true_and,List.all_nil,Bool.and_true]
 rfl
theorem zpb (w:Wd) (k:Nat) (x:Int):wRow (w.set k x)=(wRow w).set k (.int .i64 x):=by simp [wRow,List.map_set]
theorem zjH {row:List Value} {k:Nat} (h:k<row.length) (v:Value):zc9 row k [v]=some (row.set k v):=by
 rw [zbB (by simp;omega)]
 congr 1
 rw [List.set_eq_take_append_cons_drop,if_pos h]
 simp
abbrev Z12:List Value:=[.int .i64 0,.int .i64 0,.int .i64 0,.int .i64 0,.int .i64 0,.int .i64 0,.int .i64 0,.int .i64 0,.int .i64 0,.int .i64 0,.int .i64 0,.int .i64 0]
theorem set_ok [Sym] (w:Wd) (hw:w.length=12) (f:List UInt8) (x:Int) (st:SS) (hg:Gd st):∃ n,st.next≤n∧cc 100 [wV w,.string (mkS f),.int .i64 x] st=some (.tuple #[wV (zcc w f x).1,.int .i64 (zcc w f x).2],st.adv n):=by
 have hc:(wV w).cells.toList=wRow w:=zaJ _
 have hl:(wRow w).length=12:=by rw [za7,hw]
 have a0:At ((st.ro st.next).new (.cells (wRow w) 0)) st.next (wRow w):=At.new (st:=st.ro st.next) (zlr _) _
 have x1:Ext (st.ro st.next) ((st.ro st.next).new (.cells (wRow w) 0)):=(Ext.refl _).new _
 have a1:At (((st.ro st.next).new (.cells (wRow w) 0)).new (.cells Z12 0)) (st.next+1) Z12:=At.new (st:=(st.ro st.next).new (.cells (wRow w) 0)) (by simp) _
 have x2:Ext ((st.ro st.next).new (.cells (wRow w) 0)) (((st.ro st.next).new (.cells (wRow w) 0)).new (.cells Z12 0)):=(Ext.refl _).new _
 have g2:Gd (((st.ro st.next).new (.cells (wRow w) 0)).new (.cells Z12 0)):=(hg.ro (n:=st.next)).ext (x1.trans x2)
 have hn2:(((st.ro st.next).new (.cells (wRow w) 0)).new (.cells Z12 0)).next=st.next+2:=rfl
 obtain ⟨n3,hn3,c3⟩:=zpa f _ g2
 have x3:Ext (((st.ro st.next).new (.cells (wRow w) 0)).new (.cells Z12 0)) ((((st.ro st.next).new (.cells (wRow w) 0)).new (.cells Z12 0)).adv n3):=(Ext.refl _).adv hn3
 have a0':=(a0.ext x2).ext x3
 have a1':=a1.ext x3
 cases hk:zfW f with
 | none=>
   rw [hk] at c3
   have hs:zcc w f x=(w,5):=by unfold zcc;rw [hk]
   rw [hs]
   obtain ⟨s',f1,f2,f3,f4,_⟩:=za9 (n:=12) a1' rfl a0' hl (zgq w)
   have h0:ixI none<0:=by decide
   refine ⟨s'.next,by have:=f4.next;simp at this;omega,zhA _ _ _ st ?_⟩
   have hz:=zmT w 5
   unfold wV at hz
   simp only [zhZ,hc,SS.ro_next,SS.new_next,c3,zob,zaa,zdt h0,zct,f1,f2,f3,hz]
   rfl
 | some k=>
   rw [hk] at c3
   obtain ⟨fx,_,_,hlt⟩:=zl2 hk
   have h0:¬ ixI (some k)<0:=by
    show ¬ (k:Int)<0
    omega
   have e1:zbe (ptr 0 0) 12 (ixI (some k)) 2=some (0,0+k*2):=zmS hlt
   have e2:=zkG (g2.ext x3) hlt
   have c4:=zqa x (zaz k) (by have:=zh3 k;omega) ((((st.ro st.next).new (.cells (wRow w) 0)).new (.cells Z12 0)).adv n3)
   have x4:Ext ((((st.ro st.next).new (.cells (wRow w) 0)).new (.cells Z12 0)).adv n3) (((((st.ro st.next).new (.cells (wRow w) 0)).new (.cells Z12 0)).adv n3).adv ((((st.ro st.next).new (.cells (wRow w) 0)).new (.cells Z12 0)).adv n3).next):=(Ext.refl _).adv (zlr _)
   have a0'':=a0'.ext x4
   have a1'':=a1'.ext x4
   by_cases hf:fitsT x (zaz k)=true
   ·rw [hf] at c4
    have hs:zcc w f x=(w.set k x,0):=by unfold zcc;rw [hk];exact if_pos hf
    rw [hs]
    have c5:=zh2 st.next (((((st.ro st.next).new (.cells (wRow w) 0)).new (.cells Z12 0)).adv n3).adv ((((st.ro st.next).new (.cells (wRow w) 0)).new (.cells Z12 0)).adv n3).next)
    generalize hs4:(((((st.ro st.next).new (.cells (wRow w) 0)).new (.cells Z12 0)).adv n3).adv ((((st.ro st.next).new (.cells (wRow w) 0)).new (.cells Z12 0)).adv n3).next)=s4 at*
    have x5:Ext s4 (s4.new (.cells (plRow st.next) 1)):=(Ext.refl _).new _
    have a0v:=a0''.ext x5
    have a1v:=a1''.ext x5
    have hel:zar (.slice (some ⟨s4.next,0,none⟩) 12 12) (ixI (some k)) 1=some (s4.next,0+k*1):=by
     show zar (.slice (some ⟨s4.next,0,none⟩) 12 12) (k:Int) 1=_
     unfold zar
     have h1:(0:Int)≤(k:Int):=by omega
     have h2:(k:Int)<((12:Nat):Int):=by omega
     simp only [zdt h1,zdt h2,Bool.and_self,zct,Int.toNat_natCast]
    have hld:(s4.new (.cells (plRow st.next) 1)).ld s4.next (0+k*1)=some (ptr st.next k):=by
     rw [SS.ld_cells SS.new_get,show 0+k*1=k by omega,zkH _ hlt]
    obtain ⟨s6,e6,a6,m6,_⟩:=a0v.sto (k:=k) (vs:=[.int .i64 x]) (row':=wRow (w.set k x)) rfl (by rw [zpb];exact zjH (by rw [hl];exact hlt) _)
    have a1w:=a1v.mod m6 (by simp)
    obtain ⟨s',f1,f2,f3,f4,_⟩:=za9 (n:=12) a1w rfl a6 (by rw [za7,List.length_set,hw]) (zgq _)
    have hnl:zav (ptr st.next k)=some (ptr st.next k):=rfl
    have hz:=zmT (w.set k x) 0
    unfold wV at hz
    have hq:∀ q:Nat,s4.next≥st.next:=fun _=>by rw [← hs4];simp;omega
    refine ⟨s'.next,by have:=f4.next;have:=m6.next;have:=x5.next;have:=hq 0;omega,zhA _ _ _ st ?_⟩
    have e1':zbe (ptr 0 0) 12 (ixI (some k)) 2=some (0,0+k*2):=e1
    simp only [zhZ,hc,SS.ro_next,SS.new_next,c3,zob,zaa,zdf h0,zcf,e1',e2,c4,zaf,znt,c5,hel,hld,hnl,zad,e6,f1,f2,f3,hz,zct]
    rfl
   ·have hf':fitsT x (zaz k)=false:=by simpa using hf
    rw [hf'] at c4
    have hs:zcc w f x=(w,1):=by unfold zcc;rw [hk];exact if_neg hf
    rw [hs]
    obtain ⟨s',f1,f2,f3,f4,_⟩:=za9 (n:=12) a1'' rfl a0'' hl (zgq w)
    have hz:=zmT w 1
    unfold wV at hz
    refine ⟨s'.next,by have:=f4.next;simp at this;omega,zhA _ _ _ st ?_⟩
    simp only [zhZ,hc,SS.ro_next,SS.new_next,c3,zob,zaa,zdf h0,zcf,e1,e2,c4,zaf,znf,f1,f2,f3,hz,zct]
    rfl
end Go.Proofs.YtifploedaacedaaGreatDoorE
namespace Go.Proofs.YtifploedaacedaaGreatDoorE
open Go Go.E Go.Proofs
def zdl (w:Wd):Bool:=(List.range 12).all fun k=>fitsT (w.getD k 0) (zaz k)
structure Pls (st:SS) (b j:Nat) (w:Wd):Prop where
 pl:st.mem.get j=some (.cells (plRow b) 1)
 lt:j<st.next
 at0:At st b (wRow w)
section
variable {st st' : SS} {b j : Nat} {w : Wd}
theorem Pls.ext (h:Pls st b j w) (e:Ext st st'):Pls st' b j w:=⟨e.get h.lt h.pl,zll h.lt e.next,h.at0.ext e⟩
theorem plS {k:Nat} (h:k<12):zar (.slice (some ⟨j,0,none⟩) 12 12) (k:Int) 1=some (j,0+k*1):=by
 unfold zar
 have h1:(0:Int)≤(k:Int):=by omega
 have h2:(k:Int)<((12:Nat):Int):=by omega
 simp only [zdt h1,zdt h2,Bool.and_self,zct,Int.toNat_natCast]
theorem Pls.ptr (h:Pls st b j w) {k:Nat} (hk:k<12):st.ld j (0+k*1)=some (Go.E.ptr b k):=by
 rw [SS.ld_cells h.pl,show 0+k*1=k by omega,zkH _ hk]
theorem Pls.part (h:Pls st b j w) (hw:w.length=12) {k:Nat} (hk:k<12):st.ld b k=some (.int .i64 (w.getD k 0)):=by
 rw [h.at0.ld,zhz,List.getD_eq_getElem?_getD]
 rw [zge (by omega)]
 rfl
end
theorem zr5 [Sym] (w:Wd) (hw:w.length=12) (b j:Nat) (st0:SS) (hg:Gd st0) (hp:Pls st0 b j w):∀ (m k:Nat) (st:SS),12=m+k→Ext st0 st→
  ∃ st',Ext st0 st'∧zd3 2 [.slice (some ⟨j,0,none⟩) 12 12,.int .i64 12,.int .i64 k] st=some (if ((List.range' k m).all fun k=>fitsT (w.getD k 0) (zaz k))=true then (0,[],st') else (1,[.bool false],st')):=by
 intro m
 induction m with
 | zero=>
   intro k st hk he
   have:k=12:=by omega
   subst this
   exact ⟨st,he,zfk _ _ _ st rfl⟩
 | succ m ih=>
   intro k st hk he
   have hkl:k<12:=by omega
   have h1:(k:Int)<12:=by omega
   have hnl:zav (ptr b k)=some (ptr b k):=rfl
   have c:=zqa (w.getD k 0) (zaz k) (by have:=zh3 k;omega) st
   have hw1:=za6 (i:=k) (by omega)
   have e1:=(hp.ext he).ptr hkl
   have e2:=(hp.ext he).part hw hkl
   have e3:=zkG (hg.ext he) hkl
   have e4:=zmS hkl
   rw [List.range'_succ,List.all_cons]
   cases hf:fitsT (w.getD k 0) (zaz k) with
   | true=>
     obtain ⟨st',x',l⟩:=ih (k+1) (st.adv st.next) (by omega) (he.adv (zlr _))
     rw [hf] at c
     refine ⟨st',x',zfk _ _ _ st ?_⟩
     simp only [zgN,zdt h1,zct,plS hkl,zob,e1,hnl,zad,e2,zaa,e4,e3,c,zaf,znt,zcf,hw1,Bool.true_and]
     exact l
   | false=>
     rw [hf] at c
     refine ⟨st.adv st.next,he.adv (zlr _),zfk _ _ _ st ?_⟩
     simp only [zgN,zdt h1,zct,plS hkl,zob,e1,hnl,zad,e2,zaa,e4,e3,c,zaf,znf,Bool.false_and]
     rfl
theorem zup [Sym] (w:Wd) (hw:w.length=12) (st:SS) (hg:Gd st):∃ n,st.next≤n∧cc 101 [wV w] st=some (.bool (zdl w),st.adv n):=by
 have hc:(wV w).cells.toList=wRow w:=zaJ _
 have a0:At ((st.ro st.next).new (.cells (wRow w) 0)) st.next (wRow w):=At.new (st:=st.ro st.next) (zlr _) _
 have x1:Ext (st.ro st.next) ((st.ro st.next).new (.cells (wRow w) 0)):=(Ext.refl _).new _
 have c2:=zh2 st.next ((st.ro st.next).new (.cells (wRow w) 0))
 have x2:Ext ((st.ro st.next).new (.cells (wRow w) 0)) (((st.ro st.next).new (.cells (wRow w) 0)).new (.cells (plRow st.next) 1)):=(Ext.refl _).new _
 have hp:Pls (((st.ro st.next).new (.cells (wRow w) 0)).new (.cells (plRow st.next) 1)) st.next (st.next+1) w:=⟨SS.new_get (st:=(st.ro st.next).new (.cells (wRow w) 0)),by simp,a0.ext x2⟩
 obtain ⟨s',x',l⟩:=zr5 w hw st.next (st.next+1) _ ((hg.ro (n:=st.next)).ext (x1.trans x2)) hp 12 0 _ (by omega) (.refl _)
 have hnx:=x'.next
 simp at hnx
 have hlen:(lenV (.slice (some ⟨st.next+1,0,none⟩) 12 12)).bind (asI .i64)=some 12:=rfl
 have l':zd3 2 [.slice (some ⟨st.next+1,0,none⟩) 12 12,.int .i64 12,.int .i64 0] (((st.ro st.next).new (.cells (wRow w) 0)).new (.cells (plRow st.next) 1))=some (if zdl w=true then (0,[],s') else (1,[.bool false],s')):=by
  have hg':zdl w=(List.range' 0 12).all fun k=>fitsT (w.getD k 0) (zaz k):=by unfold zdl;rw [List.range_eq_range']
  rw [hg']
  exact l
 refine ⟨s'.next,by omega,zos _ st ?_⟩
 have b0:Nat.beq 0 0=true:=rfl
 have b1:Nat.beq 1 0=false:=rfl
 cases hgd:zdl w with
 | true=>
   rw [hgd,if_pos rfl] at l'
   simp only [zjE,hc,SS.ro_next,c2,zob,SS.new_next,hlen,l',b0,zct]
 | false=>
   rw [hgd,if_neg (by decide)] at l'
   simp only [zjE,hc,SS.ro_next,c2,zob,SS.new_next,hlen,l',b1,zcf,zgz,zaf]
def zcN:List Nat:=zca.map (·.2)
def zei:List Nat→List Int→Int
 | n::ns,p::ps=>p+2^n*zei ns ps
 | _,_=>0
def zdW (w:Wd):Int:=zei zcN w
theorem orU64 {a c s:Nat} (ha:a<2^s) (hc:a+c*2^s<2^64):orI .u64 (a:Int) ((c*2^s:Nat):Int)=((a+c*2^s:Nat):Int):=by
 have h1:a||| c*2^s=a+c*2^s:=by
  have:=Nat.two_pow_add_eq_or_of_lt ha c
  rw [Nat.or_comm,Nat.mul_comm,← this,Nat.add_comm]
 unfold orI
 have e:((BitVec.ofInt 64 (a:Int)||| BitVec.ofInt 64 ((c*2^s:Nat):Int)).toNat:Nat)=a+c*2^s:=by
  rw [BitVec.toNat_or,BitVec.ofInt_natCast,BitVec.ofInt_natCast,BitVec.toNat_ofNat,BitVec.toNat_ofNat,Nat.mod_eq_of_lt (by omega),Nat.mod_eq_of_lt (by omega),h1]
 show IntKind.wrap .u64 (((BitVec.ofInt 64 (a:Int)||| BitVec.ofInt 64 ((c*2^s:Nat):Int)).toNat:Nat):Int)=_
 rw [e]
 exact zeD (by omega) (by omega)
theorem shl64 {c s:Nat} (hs:s<64) (hc:c*2^s<2^64):(aI .shl .u64 (c:Int) (s:Int)).bind (asI .u64)=some ((c*2^s:Nat):Int):=by
 have hb:¬ ((s:Int)<0):=by omega
 have e:min ((s:Int)).toNat (IntKind.bits .u64)=s:=by
  show min ((s:Int)).toNat 64=s
  rw [Int.toNat_natCast];omega
 have e2:zki .u64 (c:Int) (s:Int)=((c*2^s:Nat):Int):=by
  unfold zki
  rw [e]
  have:(c:Int)*2^s=((c*2^s:Nat):Int):=by simp
  rw [this]
  exact zeD (by omega) (by omega)
 simp only [aI,zdf hb,zcf,zob,zaa,e2]
def zbb (k:Nat):Nat:=(zcN.take k).sum
theorem zkI {k:Nat} (h:k<12):zbb (k+1)=zbb k+zaz k:=by
 have:∀ k,k<12→zbb (k+1)=zbb k+zaz k:=by decide+kernel
 exact this k h
theorem zuq {k:Nat} (h:k<12):zbb k+zaz k≤64∧0<zaz k:=by
 have:∀ k,k<12→zbb k+zaz k≤64∧0<zaz k:=by decide+kernel
 exact this k h
theorem zmU {k:Nat} (h:k<12):zcN.drop k=zaz k::zcN.drop (k+1):=by
 have:∀ k,k<12→zcN.drop k=zaz k::zcN.drop (k+1):=by decide+kernel
 exact this k h
theorem getD_drop {w:Wd} {k:Nat} (h:k<w.length):w.drop k=w.getD k 0::w.drop (k+1):=by
 rw [List.drop_eq_getElem_cons h,List.getD_eq_getElem?_getD,zge h]
 rfl
theorem zjI {w:Wd} (h:zdl w=true) {k:Nat} (hk:k<12):∃ p:Nat,w.getD k 0=(p:Int)∧p<2^zaz k:=by
 have:=List.all_eq_true.1 h k (List.mem_range.2 hk)
 unfold fitsT at this
 obtain ⟨h1,h2⟩:=of_decide_eq_true this
 obtain ⟨p,hp⟩:=Int.eq_ofNat_of_zero_le h1
 refine ⟨p,hp,?_⟩
 rw [hp] at h2
 have:((p:Int))<((2^zaz k:Nat):Int):=by simpa using h2
 omega
theorem zr6 [Sym] (w:Wd) (hw:w.length=12) (hgd:zdl w=true) (b j:Nat) (st0:SS) (hg:Gd st0) (hp:Pls st0 b j w):∀ (m k x:Nat),12=m+k→x<2^zbb k→
  zd4 5 [.int .u64 x,.int .i64 (zbb k),.slice (some ⟨j,0,none⟩) 12 12,.int .i64 12,.int .i64 k] st0=some (0,[.int .u64 ((x:Int)+2^zbb k*zei (zcN.drop k) (w.drop k))],st0):=by
 intro m
 induction m with
 | zero=>
   intro k x hk hx
   have:k=12:=by omega
   subst this
   refine zhB _ _ _ _ _ st0 ?_
   have e:zei (zcN.drop 12) (w.drop 12)=0:=rfl
   rw [e,Int.mul_zero,Int.add_zero]
   rfl
 | succ m ih=>
   intro k x hk hx
   have hkl:k<12:=by omega
   have h1:(k:Int)<12:=by omega
   have hnl:zav (ptr b k)=some (ptr b k):=rfl
   obtain ⟨p,hp1,hp2⟩:=zjI hgd hkl
   have hs:=zuq hkl
   have hss:=zkI hkl
   have hw1:=za6 (i:=k) (by omega)
   have e1:=hp.ptr hkl
   have e2:=hp.part hw hkl
   rw [hp1] at e2
   have e3:=zkG hg hkl
   have e4:=zmS hkl
   have hpow:2^zaz k≤2^11:=Nat.pow_le_pow_right (by omega) (zh3 k)
   have hw2:IntKind.wrap .u64 (p:Int)=(p:Int):=zeD (by omega) (by omega)
   have hpm:p*2^zbb k+2^zbb k≤2^(zbb k+zaz k):=by
    rw [Nat.pow_add,Nat.mul_comm (2^zbb k)]
    have:(p+1)*2^zbb k≤2^zaz k*2^zbb k:=Nat.mul_le_mul_right _ hp2
    rw [Nat.add_mul] at this
    omega
   have h64:2^(zbb k+zaz k)≤2^64:=Nat.pow_le_pow_right (by omega) hs.1
   have e5:=shl64 (c:=p) (s:=zbb k) (by omega) (by omega)
   have e6:=orU64 (a:=x) (c:=p) (s:=zbb k) hx (by omega)
   have hw3:IntKind.wrap .i64 ((zbb k:Int)+(zaz k:Int))=((zbb (k+1):Nat):Int):=by rw [wrap64 (by omega) (by omega),hss];omega
   have:=ih (k+1) (x+p*2^zbb k) (by omega) (by rw [hss];omega)
   have e7:(((x+p*2^zbb k:Nat):Int)+2^zbb (k+1)*zei (zcN.drop (k+1)) (w.drop (k+1)))=(x:Int)+2^zbb k*zei (zcN.drop k) (w.drop k):=by
    rw [zmU hkl,getD_drop (w:=w) (k:=k) (by omega),hp1]
    show _=(x:Int)+2^zbb k*((p:Int)+2^zaz k*zei (zcN.drop (k+1)) (w.drop (k+1)))
    rw [hss,Int.pow_add,Int.mul_add,Int.mul_assoc]
    simp only [Int.natCast_add,Int.natCast_mul,Int.natCast_pow]
    rw [Int.mul_comm (p:Int)]
    simp [Int.add_assoc]
   rw [e7] at this
   refine zhB _ _ _ _ _ st0 ?_
   simp only [zjY,zdt h1,zct,plS hkl,zob,e1,hnl,zad,e2,zaa,hw2,e5,e6,e4,e3,hw3,hw1]
   exact this
theorem zur [Sym] (w:Wd) (hw:w.length=12) (st:SS) (hg:Gd st):∃ n,st.next≤n∧cc 73 [wV w] st=some (if zdl w=true then .tuple #[.int .u64 (zdW w),.int .i64 0] else .tuple #[.int .u64 0,.int .i64 1],st.adv n):=by
 have hc:(wV w).cells.toList=wRow w:=zaJ _
 have a0:At ((st.ro st.next).new (.cells (wRow w) 0)) st.next (wRow w):=At.new (st:=st.ro st.next) (zlr _) _
 have x1:Ext (st.ro st.next) ((st.ro st.next).new (.cells (wRow w) 0)):=(Ext.refl _).new _
 have l0:((st.ro st.next).new (.cells (wRow w) 0)).ldN st.next 0 12=some (wV w):=a0.ldN (by rw [za7,hw])
 obtain ⟨n3,hn3,c3⟩:=zup w hw _ ((hg.ro (n:=st.next)).ext x1)
 have x3:Ext ((st.ro st.next).new (.cells (wRow w) 0)) (((st.ro st.next).new (.cells (wRow w) 0)).adv n3):=(Ext.refl _).adv hn3
 simp at hn3
 have b0:Nat.beq 0 0=true:=rfl
 cases hgd:zdl w with
 | false=>
   rw [hgd] at c3
   refine ⟨n3,by omega,zjX _ st ?_⟩
   simp only [zjF,hc,SS.ro_next,l0,c3,zob,zaf,znf,zct]
   rfl
 | true=>
   rw [hgd] at c3
   have c5:=zh2 st.next (((st.ro st.next).new (.cells (wRow w) 0)).adv n3)
   have x5:Ext (((st.ro st.next).new (.cells (wRow w) 0)).adv n3) ((((st.ro st.next).new (.cells (wRow w) 0)).adv n3).new (.cells (plRow st.next) 1)):=(Ext.refl _).new _
   have hp:Pls ((((st.ro st.next).new (.cells (wRow w) 0)).adv n3).new (.cells (plRow st.next) 1)) st.next n3 w:=⟨SS.new_get (st:=((st.ro st.next).new (.cells (wRow w) 0)).adv n3),by simp,(a0.ext x3).ext x5⟩
   have l:=zr6 w hw hgd st.next n3 _ ((hg.ro (n:=st.next)).ext (x1.trans (x3.trans x5))) hp 12 0 0 (by omega) (by decide)
   have e:((0:Nat):Int)+2^zbb 0*zei (zcN.drop 0) (w.drop 0)=zdW w:=by
    rw [List.drop_zero,List.drop_zero]
    show (0:Int)+2^0*zdW w=zdW w
    omega
   rw [e] at l
   have l':zd4 5 [.int .u64 0,.int .i64 0,.slice (some ⟨n3,0,none⟩) 12 12,.int .i64 12,.int .i64 0] ((((st.ro st.next).new (.cells (wRow w) 0)).adv n3).new (.cells (plRow st.next) 1))=_:=l
   have hlen:(lenV (.slice (some ⟨n3,0,none⟩) 12 12)).bind (asI .i64)=some 12:=rfl
   refine ⟨n3+1,by omega,zjX _ st ?_⟩
   have hnx:(((st.ro st.next).new (.cells (wRow w) 0)).adv n3).next=n3:=rfl
   simp only [zjF,hc,SS.ro_next,l0,c3,zob,zaf,znt,zcf,c5,hnx,hlen,l',zgz,zaa]
   rfl
end Go.Proofs.YtifploedaacedaaGreatDoorE
namespace Go.Proofs.YtifploedaacedaaGreatDoorE
open Go Go.E Go.Proofs
theorem flatV (w:Wd):flat3 (wV w)=true:=by
 show ((wRow w).toArray.toList.all zbd)=true
 simp [wRow,zbd]
end Go.Proofs.YtifploedaacedaaGreatDoorE
namespace Go.Proofs.YtifploedaacedaaGreatDoorE
open Go Go.E Go.Proofs
structure Val where
 nm:List UInt8
 x:Int
 col:Nat
structure Pr where
 fd:List UInt8
 col:Nat
 v:Val
structure PLine where
 ln:Nat
 lab:List UInt8
 dir:List UInt8
 args:List Val
 prs:List Pr
def zaA (t:Tok) (s:List UInt8):Bool:=decide (t.kd=3)&&decide (t.tx=s)
def zdB:List Tok→Except Nat (Val×Nat)
 | []=>.error 0
 | t::r=>if t.kd=2 then .ok (⟨[],t.nm,t.col⟩,1) else if t.kd=1 then (match r with
   | []=>.error 0
   | s::u=>if zaA s [43]=true then (match u with
     | n::_=>if n.kd=2 then .ok (⟨t.tx,n.nm,t.col⟩,3) else .error 2
     | []=>.error 2)
     else if zaA s [45]=true then (match u with
      | n::_=>if n.kd=2 then .ok (⟨t.tx, -n.nm,t.col⟩,3) else .error 2
      | []=>.error 2)
     else .ok (⟨t.tx,0,t.col⟩,1)) else .error 0
def zcO:Nat→List Tok→Except Nat (List Val)
 | 0,_=>.ok []
 | _+1,[]=>.ok []
 | k+1,t::r=>if t.kd=0 then .ok [] else match zdB (t::r) with
   | .error o=>.error o
   | .ok (v,n)=>match zcO k ((t::r).drop n) with
     | .error o=>.error (n+o)
     | .ok vs=>.ok (v::vs)
def pairT (seen:List (List UInt8)):List Tok→Except Nat (Pr×Nat)
 | []=>.error 0
 | t::r=>if t.kd=1∧t.tx∉seen then (match r with
   | []=>.error 1
   | e::u=>if zaA e [61]=true then (match zdB u with
     | .error o=>.error (2+o)
     | .ok (v,n)=>.ok (⟨t.tx,t.col,v⟩,2+n)) else .error 1)
   else .error 0
def zba:Nat→List (List UInt8)→List Tok→Except Nat (List Pr)
 | 0,_,_=>.ok []
 | _+1,_,[]=>.ok []
 | k+1,seen,t::r=>if t.kd=0 then .ok [] else match pairT seen (t::r) with
   | .error o=>.error o
   | .ok (p,n)=>match zba k (seen++[p.fd]) ((t::r).drop n) with
     | .error o=>.error (n+o)
     | .ok ps=>.ok (p::ps)
def zcD (lab:List UInt8):List Tok→Except Nat PLine
 | []=>.error 0
 | t::r=>if zaA t [46]=true then (match r with
   | []=>.error 1
   | d::u=>if d.kd=1 then (match zcO u.length u with
     | .error o=>.error (2+o)
     | .ok vs=>.ok ⟨0,lab,d.tx,vs,[]⟩) else .error 1)
   else match zba (t::r).length [] (t::r) with
    | .error o=>.error o
    | .ok ps=>.ok ⟨0,lab,[],[],ps⟩
def readT:List Tok→Except Nat PLine
 | t::s::r=>if t.kd=1∧zaA s [58]=true then (match zcD t.tx r with
   | .error o=>.error (2+o)
   | .ok x=>.ok x) else zcD [] (t::s::r)
 | l=>zcD [] l
def zmV (l:List Tok) (o:Nat):Nat:=((l[o]?).map (·.col)).getD 0
def zbQ:Nat→List (List Tok)→Except (Nat×Nat) (List PLine)
 | _,[]=>.ok []
 | i,ts::r=>match readT ts with
   | .error o=>.error (i+1,zmV ts o)
   | .ok x=>match zbQ (i+1) r with
     | .error e=>.error e
     | .ok xs=>.ok (if 1<ts.length then { x with ln:=i+1 }::xs else xs)
def zci:Nat→List (List UInt8)→Except (Nat×Nat) (List (List Tok))
 | _,[]=>.ok []
 | i,p::r=>match zbV p with
   | .error c=>.error (i+1,c)
   | .ok ts=>match zci (i+1) r with
     | .error e=>.error e
     | .ok tss=>.ok (ts::tss)
def zfc (l:List UInt8):Except (Nat×Nat) (List PLine):=match zci 0 (pieces 10 l) with
 | .error e=>.error e
 | .ok tss=>zbQ 0 tss
def flat:Nat→List (List Tok)→List (Nat×Tok)
 | _,[]=>[]
 | i,ts::r=>ts.map (fun t=>(i+1,t))++flat (i+1) r
theorem zmW (ps:List (List UInt8)) (i:Nat):zdg i ps=match zci i ps with
  | .error e=>.error e
  | .ok tss=>.ok (flat i tss):=by
 induction ps generalizing i with
 | nil=>rfl
 | cons p r ih=>
   unfold zdg zci
   cases hx:zbV p with
   | error c=>rfl
   | ok ts=>
     simp only
     rw [ih (i+1)]
     cases hy:zci (i+1) r with
     | error e=>rfl
     | ok tss=>rfl
def Lin:List Tok→Prop
 | []=>False
 | t::r=>(t.kd=0∧r=[])∨(t.kd≠0∧Lin r)
theorem Lin.tail {t:Tok} {r:List Tok} (h:Lin (t::r)) (hk:t.kd≠0):Lin r:=h.elim (fun x=>absurd x.1 hk) (·.2)
theorem Lin.last {t:Tok} {r:List Tok} (h:Lin (t::r)) (hk:t.kd=0):r=[]:=h.elim (·.2) fun x=>absurd hk x.1
theorem Lin.ne {r:List Tok} (h:Lin r):∃ t u,r=t::u:=by
 cases r with
 | nil=>exact h.elim
 | cons t u=>exact ⟨t,u,rfl⟩
structure TokOk (t:Tok):Prop where
 kd:t.kd≤3
 tx:t.kd=1→t.tx≠[]
 nm0:0≤t.nm
 nm1:t.nm≤2147483647
theorem zqT {l:List UInt8} {m:Nat} (h:numO (zcA l)=some m):m≤2147483647:=by
 have key:∀ B q,numO (za0 B q)=some m→m≤2147483647:=by
  intro B q h
  have hr:=zgI (B:=B) (l:=q)
  cases hp:za0 B q with
  | none=>rw [hp] at h;cases h
  | some x=>cases x with
    | none=>rw [hp] at h;cases h
    | some k=>
      rw [hp] at h hr
      have:k=m:=by injection h
      subst this
      simp only [puV] at hr
      omega
 unfold zcA at h
 split at h
 ·exact key _ _ h
 ·exact key _ _ h
theorem ztj {l:List UInt8} {kd n:Nat} {x:Int} {c:Nat} (h:stepT l=.tok kd n x):TokOk ⟨kd,l.take n,x,c⟩∧kd≠0:=by
 obtain ⟨h1,h2,h3⟩:=zrZ h
 have hne:l.take n≠[]:=by
  intro e
  have:=congrArg List.length e
  rw [List.length_take] at this
  simp at this
  rcases this with rfl | rfl
  ·omega
  ·simp at h2;omega
 have hx:0≤x∧x≤2147483647:=by
  cases l with
  | nil=>cases h
  | cons c r=>
    rw [zmL] at h
    split at h
    ·cases h
    ·split at h
     ·cases h
     ·split at h
      ·split at h
       ·cases h
       ·cases h;omega
      ·split at h
       ·split at h
        ·rename_i m hm
         cases h
         have:=zqT hm
         omega
        ·cases h
       ·split at h
        ·cases h;omega
        ·cases h
 exact ⟨⟨by show kd≤3;omega,fun _=>hne,hx.1,hx.2⟩,by omega⟩
theorem Lin.snoc {ts:List Tok} {e:Tok} (h:∀ t∈ts,t.kd≠0) (he:e.kd=0):Lin (ts++[e]):=by
 induction ts with
 | nil=>exact .inl ⟨he,rfl⟩
 | cons t r ih=>exact .inr ⟨h t (List.mem_cons_self ..),ih fun u hu=>h u (List.mem_cons_of_mem _ hu)⟩
theorem zus (k col:Nat) (l:List UInt8) (ts:List Tok) (h:zcM k col l=.ok ts):∀ t∈ts,TokOk t∧t.kd≠0:=by
 induction k generalizing col l ts with
 | zero=>cases h;intro t ht;cases ht
 | succ k ih=>
   unfold zcM at h
   split at h
   ·cases h;intro t ht;cases ht
   ·exact ih _ _ _ h
   ·rename_i kd n x hs
    cases hx:zcM k (col+n) (l.drop n) with
    | error e=>rw [hx] at h;cases h
    | ok us=>
      rw [hx] at h;cases h
      intro t ht
      rcases List.mem_cons.1 ht with rfl | ht
      ·exact ztj hs
      ·exact ih _ _ _ hx t ht
   ·cases h
theorem zl3 {p:List UInt8} {ts:List Tok} (h:zbV p=.ok ts):Lin ts∧∀ t∈ts,TokOk t:=by
 unfold zbV at h
 split at h
 ·rename_i us hu
  cases h
  have h1:=zus _ _ _ _ hu
  refine ⟨Lin.snoc (fun t ht=>(h1 t ht).2) rfl,fun t ht=>?_⟩
  rcases List.mem_append.1 ht with ht | ht
  ·exact (h1 t ht).1
  ·have:t=zgo p:=by simpa using ht
   subst this
   exact ⟨by simp [zgo],fun h=>by simp [zgo] at h,by simp [zgo],by simp [zgo]⟩
 ·cases h
theorem ztk (ps:List (List UInt8)) (i:Nat) (tss:List (List Tok)) (h:zci i ps=.ok tss):∀ ts∈tss,Lin ts∧∀ t∈ts,TokOk t:=by
 induction ps generalizing i tss with
 | nil=>cases h;intro ts hts;cases hts
 | cons p r ih=>
   unfold zci at h
   cases hx:zbV p with
   | error c=>rw [hx] at h;cases h
   | ok ts=>
     rw [hx] at h
     cases hy:zci (i+1) r with
     | error e=>rw [hy] at h;cases h
     | ok us=>
       rw [hy] at h;cases h
       intro ts' ht
       rcases List.mem_cons.1 ht with rfl | ht
       ·exact zl3 hx
       ·exact ih _ _ hy ts' ht
theorem zbN {t:Tok} {s:List UInt8} (h:zaA t s=true):t.kd=3:=by
 simp [zaA] at h;exact h.1
theorem zfX (t:Tok) (r:List Tok):zdB (t::r)=(if t.kd=2 then .ok (⟨[],t.nm,t.col⟩,1) else if t.kd=1 then (match r with
   | []=>.error 0
   | s::u=>if zaA s [43]=true then (match u with
     | n::_=>if n.kd=2 then .ok (⟨t.tx,n.nm,t.col⟩,3) else .error 2
     | []=>.error 2)
     else if zaA s [45]=true then (match u with
      | n::_=>if n.kd=2 then .ok (⟨t.tx, -n.nm,t.col⟩,3) else .error 2
      | []=>.error 2)
     else .ok (⟨t.tx,0,t.col⟩,1)) else .error 0):=rfl
theorem zg9 (seen:List (List UInt8)) (t:Tok) (r:List Tok):pairT seen (t::r)=(if t.kd=1∧t.tx∉seen then (match r with
   | []=>.error 1
   | e::u=>if zaA e [61]=true then (match zdB u with
     | .error o=>.error (2+o)
     | .ok (v,n)=>.ok (⟨t.tx,t.col,v⟩,2+n)) else .error 1)
  else .error 0):=rfl
theorem zh4 {l:List Tok} (hl:Lin l):match zdB l with
  | .ok (_,n)=>Lin (l.drop n)∧0<n
  | .error o=>o<l.length:=by
 obtain ⟨t,r,rfl⟩:=hl.ne
 rw [zfX]
 by_cases h2:t.kd=2
 ·rw [if_pos h2]
  exact ⟨hl.tail (by omega),by omega⟩
 ·rw [if_neg h2]
  by_cases h1:t.kd=1
  ·rw [if_pos h1]
   have hr:=hl.tail (by omega)
   obtain ⟨s,u,rfl⟩:=hr.ne
   simp only
   by_cases hp:zaA s [43]=true
   ·rw [if_pos hp]
    have hu:=hr.tail (by have:=zbN hp;omega)
    obtain ⟨n,w,rfl⟩:=hu.ne
    simp only
    by_cases hn:n.kd=2
    ·rw [if_pos hn];exact ⟨hu.tail (by omega),by omega⟩
    ·rw [if_neg hn];simp
   ·rw [if_neg hp]
    by_cases hm:zaA s [45]=true
    ·rw [if_pos hm]
     have hu:=hr.tail (by have:=zbN hm;omega)
     obtain ⟨n,w,rfl⟩:=hu.ne
     simp only
     by_cases hn:n.kd=2
     ·rw [if_pos hn];exact ⟨hu.tail (by omega),by omega⟩
     ·rw [if_neg hn];simp
    ·rw [if_neg hm];exact ⟨hr,by omega⟩
  ·rw [if_neg h1];simp
theorem zh5 {seen:List (List UInt8)} {l:List Tok} (hl:Lin l):match pairT seen l with
  | .ok (_,n)=>Lin (l.drop n)∧0<n
  | .error o=>o<l.length:=by
 obtain ⟨t,r,rfl⟩:=hl.ne
 rw [zg9]
 by_cases h1:t.kd=1∧t.tx∉seen
 ·rw [if_pos h1]
  have hr:=hl.tail (by omega)
  obtain ⟨e,u,rfl⟩:=hr.ne
  simp only
  by_cases he:zaA e [61]=true
  ·rw [if_pos he]
   have hu:=hr.tail (by have:=zbN he;omega)
   have h:=zh4 hu
   cases hx:zdB u with
   | error o=>rw [hx] at h;simp only at h ⊢;simp;omega
   | ok y=>
     obtain ⟨v,n⟩:=y
     rw [hx] at h
     simp only at h ⊢
     rw [Nat.add_comm 2 n]
     exact ⟨h.1,by omega⟩
  ·rw [if_neg he];simp
 ·rw [if_neg h1];simp
theorem zr7 (k:Nat) (l:List Tok) (hl:Lin l) (o:Nat) (h:zcO k l=.error o):o<l.length:=by
 induction k generalizing l o with
 | zero=>cases h
 | succ k ih=>
   obtain ⟨t,r,rfl⟩:=hl.ne
   unfold zcO at h
   split at h
   ·cases h
   ·have hx:=zh4 hl
    cases hy:zdB (t::r) with
    | error o'=>rw [hy] at h hx;cases h;exact hx
    | ok y=>
      obtain ⟨v,n⟩:=y
      rw [hy] at h hx
      simp only at h hx
      cases hz:zcO k ((t::r).drop n) with
      | ok vs=>rw [hz] at h;cases h
      | error o'=>
        rw [hz] at h
        have:=ih _ hx.1 o' hz
        rw [List.length_drop] at this
        have h':n+o'=o:=by injection h
        omega
theorem zqU (k:Nat) (seen:List (List UInt8)) (l:List Tok) (hl:Lin l) (o:Nat) (h:zba k seen l=.error o):o<l.length:=by
 induction k generalizing seen l o with
 | zero=>cases h
 | succ k ih=>
   obtain ⟨t,r,rfl⟩:=hl.ne
   unfold zba at h
   split at h
   ·cases h
   ·have hx:=zh5 (seen:=seen) hl
    cases hy:pairT seen (t::r) with
    | error o'=>rw [hy] at h hx;cases h;exact hx
    | ok y=>
      obtain ⟨v,n⟩:=y
      rw [hy] at h hx
      simp only at h hx
      cases hz:zba k (seen++[v.fd]) ((t::r).drop n) with
      | ok vs=>rw [hz] at h;cases h
      | error o'=>
        rw [hz] at h
        have:=ih _ _ hx.1 o' hz
        rw [List.length_drop] at this
        have h':n+o'=o:=by injection h
        omega
theorem zdX (lab:List UInt8) (t:Tok) (r:List Tok):zcD lab (t::r)=if zaA t [46]=true then (match r with
   | []=>.error 1
   | d::u=>if d.kd=1 then (match zcO u.length u with
     | .error o=>.error (2+o)
     | .ok vs=>.ok ⟨0,lab,d.tx,vs,[]⟩) else .error 1)
  else match zba (t::r).length [] (t::r) with
   | .error o=>.error o
   | .ok ps=>.ok ⟨0,lab,[],[],ps⟩:=rfl
theorem zev (t s:Tok) (r:List Tok):readT (t::s::r)=if t.kd=1∧zaA s [58]=true then (match zcD t.tx r with
   | .error o=>.error (2+o)
   | .ok x=>.ok x) else zcD [] (t::s::r):=rfl
theorem zkJ (lab:List UInt8) (l:List Tok) (hl:Lin l) (o:Nat) (h:zcD lab l=.error o):o<l.length:=by
 obtain ⟨t,r,rfl⟩:=hl.ne
 rw [zdX] at h
 by_cases hs:zaA t [46]=true
 ·rw [if_pos hs] at h
  have hr:=hl.tail (by have:=zbN hs;omega)
  obtain ⟨d,u,rfl⟩:=hr.ne
  simp only at h
  by_cases hd:d.kd=1
  ·rw [if_pos hd] at h
   have hu:=hr.tail (by omega)
   cases hx:zcO u.length u with
   | ok vs=>rw [hx] at h;cases h
   | error o'=>
     rw [hx] at h
     have:=zr7 _ _ hu o' hx
     have h':2+o'=o:=by injection h
     simp;omega
  ·rw [if_neg hd] at h;cases h;simp
 ·rw [if_neg hs] at h
  cases hx:zba (t::r).length [] (t::r) with
  | ok vs=>rw [hx] at h;cases h
  | error o'=>
    rw [hx] at h
    have:=zqU _ _ _ hl o' hx
    have h':o'=o:=by injection h
    omega
theorem zn0 (l:List Tok) (hl:Lin l) (o:Nat) (h:readT l=.error o):o<l.length:=by
 obtain ⟨t,r,rfl⟩:=hl.ne
 cases r with
 | nil=>exact zkJ [] _ hl o h
 | cons s r=>
   rw [zev] at h
   split at h
   ·rename_i hc
    have hr:Lin r:=(hl.tail (by omega)).tail (by have:=zbN hc.2;omega)
    cases hx:zcD t.tx r with
    | ok x=>rw [hx] at h;cases h
    | error o'=>
      rw [hx] at h
      have:=zkJ _ _ hr o' hx
      have h':2+o'=o:=by injection h
      simp;omega
   ·exact zkJ [] _ hl o h
end Go.Proofs.YtifploedaacedaaGreatDoorE
namespace Go.Proofs.YtifploedaacedaaGreatDoorE
set_option maxRecDepth 20000
open Go Go.E Go.Proofs
noncomputable def zgS (cf:zak) (lf:zac) (p':Value) (st:SS):Option (Value×SS):=
 let a:SS:=(st.ro st.next).new (.cells [.int .i64 0,.string ⟨#[]⟩,.int .i64 0,.int .i64 0,.int .i64 0] 0)
 (zav p').bind fun b=>
 (addr? b).bind fun c=>
 (a.ld c.1 c.2).bind fun d=>
 (zav p').bind fun e=>
 (addr? e).bind fun f=>
 ((a.ld f.1 (f.2+1)).bind (asI .i64)).bind fun g=>
 (zar d g 5).bind fun h=>
 (a.ldN h.1 h.2 5).bind fun i=>
 (a.stV ((st.ro st.next).next) 0 5 i).bind fun j=>
 (j.rdN ((st.ro st.next).next) 0 5).bind fun k=>
 cond (flat3 k) (some (k,st.adv j.next)) none
noncomputable abbrev zjJ:zac:=lS Tryz.prog Lk0 Tryz.f69 zaG
theorem zjK:Lk0.func 69=some (69,Tryz.f69):=by kernel_rfl
theorem zjL [Sym] (p':Value) (st:SS) {r:Value×SS} (h:zgS cc zjJ p' st=some r):cc 69 [p'] st=some r:=
 zah (li:=zaG) zai zaq zjK rfl (fun _=>rfl) (.trans (by kernel_rfl) h)
noncomputable def zew (cf:zak) (lf:zac) (p':Value) (st:SS):Option (Value×SS):=
 let a:SS:=(st.ro st.next).new (.cells [.int .i64 0,.string ⟨#[]⟩,.int .i64 0,.int .i64 0,.int .i64 0] 0)
 (cf 69 [p'] a).bind fun b=>
 ((zdQ Lk0 150 0 b.1).bind (asI .i64)).bind fun c=>
 cond (decide (c=0)) (
 (cf 69 [p'] b.2).bind fun d=>
 (d.2.stV ((st.ro st.next).next) 0 5 d.1).bind fun e=>
 (e.rdN ((st.ro st.next).next) 0 5).bind fun f=>
 cond (flat3 f) (some (f,st.adv e.next)) none) (
 (zav p').bind fun g=>
 (addr? g).bind fun h=>
 (b.2.ld h.1 h.2).bind fun i=>
 (zav p').bind fun j=>
 (addr? j).bind fun k=>
 ((b.2.ld k.1 (k.2+1)).bind (asI .i64)).bind fun l=>
 let m:Int:=IntKind.wrap .i64 (l+1)
 (zar i m 5).bind fun n=>
 (b.2.ldN n.1 n.2 5).bind fun o=>
 (b.2.stV ((st.ro st.next).next) 0 5 o).bind fun p=>
 (p.rdN ((st.ro st.next).next) 0 5).bind fun q=>
 cond (flat3 q) (some (q,st.adv p.next)) none)
noncomputable abbrev ziP:zac:=lS Tryz.prog Lk0 Tryz.f91 zaG
theorem ziQ:Lk0.func 91=some (91,Tryz.f91):=by kernel_rfl
theorem zfx [Sym] (p':Value) (st:SS) {r:Value×SS} (h:zew cc ziP p' st=some r):cc 91 [p'] st=some r:=
 zah (li:=zaG) zai zaq ziQ rfl (fun _=>rfl) (.trans (by kernel_rfl) h)
noncomputable def zc3 (cf:zak) (lf:zac) (p':Value) (sign':ByteArray) (st:SS):Option (Value×SS):=
 (cf 69 [p'] st).bind fun a=>
 let b:SS:=a.2.new (.cells [.int .i64 0,.string ⟨#[]⟩,.int .i64 0,.int .i64 0,.int .i64 0] 0)
 (b.stV a.2.next 0 5 a.1).bind fun c=>
 ((c.ld a.2.next 0).bind (asI .i64)).bind fun d=>
 cond (!(decide (d=3))) (
 some (.bool false,c)) (
 ((c.ld a.2.next 1).bind asS).bind fun e=>
 cond (!(eqT e sign')) (
 some (.bool false,c)) (
 (zav p').bind fun f=>
 (addr? f).bind fun g=>
 ((c.ld g.1 (g.2+1)).bind (asI .i64)).bind fun h=>
 let i:Int:=IntKind.wrap .i64 (h+1)
 (zav p').bind fun j=>
 (addr? j).bind fun k=>
 (c.st k.1 (k.2+1) [.int .i64 i]).bind fun l=>
 some (.bool true,l)))
noncomputable abbrev zim:zac:=lS Tryz.prog Lk0 Tryz.f92 zaG
theorem zin:Lk0.func 92=some (92,Tryz.f92):=by kernel_rfl
theorem zdx [Sym] (p':Value) (sign':ByteArray) (st:SS) {r:Value×SS} (h:zc3 cc zim p' sign' st=some r):cc 92 [p',.string sign'] st=some r:=
 zah (li:=zaG) zai zaq zin rfl (fun _=>rfl) (.trans (by kernel_rfl) h)
noncomputable def zex (cf:zak) (lf:zac) (p':Value) (st:SS):Option (Value×SS):=
 (cf 69 [p'] st).bind fun a=>
 let b:SS:=a.2.new (.cells [.int .i64 0,.string ⟨#[]⟩,.int .i64 0,.int .i64 0,.int .i64 0] 0)
 (b.stV a.2.next 0 5 a.1).bind fun c=>
 ((c.ld a.2.next 0).bind (asI .i64)).bind fun d=>
 cond (!(decide (d=1))) (
 some (.tuple #[.string ⟨#[]⟩,.bool false],c)) (
 (zav p').bind fun e=>
 (addr? e).bind fun f=>
 ((c.ld f.1 (f.2+1)).bind (asI .i64)).bind fun g=>
 let h:Int:=IntKind.wrap .i64 (g+1)
 (zav p').bind fun i=>
 (addr? i).bind fun j=>
 (c.st j.1 (j.2+1) [.int .i64 h]).bind fun k=>
 ((k.ld a.2.next 1).bind asS).bind fun l=>
 some (.tuple #[.string l,.bool true],k))
noncomputable abbrev ziR:zac:=lS Tryz.prog Lk0 Tryz.f93 zaG
theorem ziS:Lk0.func 93=some (93,Tryz.f93):=by kernel_rfl
theorem zfy [Sym] (p':Value) (st:SS) {r:Value×SS} (h:zex cc ziR p' st=some r):cc 93 [p'] st=some r:=
 zah (li:=zaG) zai zaq ziS rfl (fun _=>rfl) (.trans (by kernel_rfl) h)
noncomputable def zdY (cf:zak) (lf:zac) (p':Value) (st:SS):Option (Value×SS):=
 (cf 69 [p'] st).bind fun a=>
 let b:SS:=a.2.new (.cells [.int .i64 0,.string ⟨#[]⟩,.int .i64 0,.int .i64 0,.int .i64 0] 0)
 (b.stV a.2.next 0 5 a.1).bind fun c=>
 ((c.ld a.2.next 0).bind (asI .i64)).bind fun d=>
 cond (!(decide (d=2))) (
 some (.tuple #[.int .i64 0,.bool false],c)) (
 (zav p').bind fun e=>
 (addr? e).bind fun f=>
 ((c.ld f.1 (f.2+1)).bind (asI .i64)).bind fun g=>
 let h:Int:=IntKind.wrap .i64 (g+1)
 (zav p').bind fun i=>
 (addr? i).bind fun j=>
 (c.st j.1 (j.2+1) [.int .i64 h]).bind fun k=>
 ((k.ld a.2.next 2).bind (asI .i64)).bind fun l=>
 some (.tuple #[.int .i64 l,.bool true],k))
noncomputable abbrev zhO:zac:=lS Tryz.prog Lk0 Tryz.f111 zaG
theorem zhP:Lk0.func 111=some (111,Tryz.f111):=by kernel_rfl
theorem zeH [Sym] (p':Value) (st:SS) {r:Value×SS} (h:zdY cc zhO p' st=some r):cc 111 [p'] st=some r:=
 zah (li:=zaG) zai zaq zhP rfl (fun _=>rfl) (.trans (by kernel_rfl) h)
noncomputable def zbg (cf:zak) (lf:zac) (p':Value) (st:SS):Option (Value×SS):=
 let a:SS:=st.new (.cells [.string ⟨#[]⟩,.int .i64 0,.int .i64 0] 0)
 (cf 69 [p'] a).bind fun b=>
 ((zdQ Lk0 150 4 b.1).bind (asI .i64)).bind fun c=>
 let d:SS:=b.2.new (.cells [.string ⟨#[]⟩,.int .i64 0,.int .i64 0] 0)
 (d.st b.2.next 0 [.string ⟨#[]⟩,.int .i64 0,.int .i64 c]).bind fun e=>
 (cf 111 [p'] e).bind fun f=>
 ((zal f.1 0).bind (asI .i64)).bind fun g=>
 ((zal f.1 1).bind asB).bind fun h=>
 (f.2.st b.2.next 1 [.int .i64 g]).bind fun i=>
 cond h (
 (i.ldN b.2.next 0 3).bind fun j=>
 (i.stV st.next 0 3 j).bind fun k=>
 (k.rdN st.next 0 3).bind fun l=>
 some (.tuple #[l,.bool true],k)) (
 (cf 93 [p'] i).bind fun m=>
 ((zal m.1 0).bind asS).bind fun n=>
 ((zal m.1 1).bind asB).bind fun o=>
 (m.2.st b.2.next 0 [.string n]).bind fun p=>
 cond (!o) (
 (p.ldN b.2.next 0 3).bind fun q=>
 (p.stV st.next 0 3 q).bind fun r=>
 (r.rdN st.next 0 3).bind fun s=>
 some (.tuple #[s,.bool false],r)) (
 (cf 92 [p',.string ⟨#[43]⟩] p).bind fun t=>
 ((some t.1).bind asB).bind fun u=>
 cond u (
 (cf 111 [p'] t.2).bind fun v=>
 ((zal v.1 0).bind (asI .i64)).bind fun w=>
 ((zal v.1 1).bind asB).bind fun x=>
 (v.2.st b.2.next 1 [.int .i64 w]).bind fun y=>
 (y.ldN b.2.next 0 3).bind fun z=>
 (y.stV st.next 0 3 z).bind fun A=>
 (A.rdN st.next 0 3).bind fun B=>
 some (.tuple #[B,.bool x],A)) (
 (cf 92 [p',.string ⟨#[45]⟩] t.2).bind fun C=>
 ((some C.1).bind asB).bind fun D=>
 cond D (
 (cf 111 [p'] C.2).bind fun E=>
 ((zal E.1 0).bind (asI .i64)).bind fun F=>
 ((zal E.1 1).bind asB).bind fun G=>
 (E.2.st b.2.next 1 [.int .i64 F]).bind fun H=>
 ((H.ld b.2.next 1).bind (asI .i64)).bind fun I=>
 let J:Int:=IntKind.wrap .i64 (0-I)
 (H.st b.2.next 1 [.int .i64 J]).bind fun K=>
 (K.ldN b.2.next 0 3).bind fun L=>
 (K.stV st.next 0 3 L).bind fun M=>
 (M.rdN st.next 0 3).bind fun N=>
 some (.tuple #[N,.bool G],M)) (
 (C.2.ldN b.2.next 0 3).bind fun O=>
 (C.2.stV st.next 0 3 O).bind fun P=>
 (P.rdN st.next 0 3).bind fun Q=>
 some (.tuple #[Q,.bool o],P)))))
noncomputable abbrev zio:zac:=lS Tryz.prog Lk0 Tryz.f94 zaG
theorem ziq:Lk0.func 94=some (94,Tryz.f94):=by kernel_rfl
theorem zbc [Sym] (p':Value) (st:SS) {r:Value×SS} (h:zbg cc zio p' st=some r):cc 94 [p'] st=some r:=
 zah (li:=zaG) zai zaq ziq rfl (fun _=>rfl) (.trans (by kernel_rfl) h)
noncomputable def zbY (cf:zak) (lf:zac) (p':Value) (l':Value) (st:SS):Option (Value×SS):=
 (cf 69 [p'] st).bind fun a=>
 ((zdQ Lk0 150 4 a.1).bind (asI .i64)).bind fun b=>
 let c:SS:=a.2.new (.cells [.string ⟨#[]⟩,.int .i64 0,.string ⟨#[]⟩,.int .i64 0,.int .i64 0] 0)
 (c.st a.2.next 0 [.string ⟨#[]⟩,.int .i64 b,.string ⟨#[]⟩,.int .i64 0,.int .i64 0]).bind fun d=>
 (cf 69 [p'] d).bind fun e=>
 ((zdQ Lk0 150 1 e.1).bind asS).bind fun f=>
 let g:SS:=e.2.new (.cells [.string ⟨#[]⟩] 0)
 (g.st e.2.next 0 [.string f]).bind fun h=>
 (cf 69 [p'] h).bind fun i=>
 ((zdQ Lk0 150 0 i.1).bind (asI .i64)).bind fun j=>
 cond (!(decide (j=1))) (
 some (.bool false,i.2)) (
 (zav l').bind fun k=>
 (addr? k).bind fun l=>
 (i.2.ld l.1 (l.2+4)).bind fun m=>
 (cf 112 [m,.func (.func 113) #[] #[ptr e.2.next 0]] i.2).bind fun n=>
 ((some n.1).bind asB).bind fun o=>
 cond o (
 some (.bool false,n.2)) (
 ((n.2.ld e.2.next 0).bind asS).bind fun p=>
 (n.2.st a.2.next 0 [.string p]).bind fun q=>
 (zav p').bind fun r=>
 (addr? r).bind fun s=>
 ((q.ld s.1 (s.2+1)).bind (asI .i64)).bind fun t=>
 let u:Int:=IntKind.wrap .i64 (t+1)
 (zav p').bind fun v=>
 (addr? v).bind fun w=>
 (q.st w.1 (w.2+1) [.int .i64 u]).bind fun x=>
 (cf 92 [p',.string ⟨#[61]⟩] x).bind fun y=>
 ((some y.1).bind asB).bind fun z=>
 cond (!z) (
 some (.bool false,y.2)) (
 (cf 94 [p'] y.2).bind fun A=>
 (zal A.1 0).bind fun B=>
 ((zal A.1 1).bind asB).bind fun C=>
 (A.2.stV a.2.next 2 3 B).bind fun D=>
 cond (!C) (
 some (.bool false,D)) (
 (zav l').bind fun E=>
 (addr? E).bind fun F=>
 (D.ld F.1 (F.2+4)).bind fun G=>
 (D.ldN a.2.next 0 5).bind fun H=>
 (zaE H 5).bind fun I=>
 let J:SS:=D.new (.cells (I++([])) 5)
 (J.app 5 56 G (.slice (some ⟨D.next,0,none⟩) 1 1)).bind fun K=>
 (zav l').bind fun L=>
 (addr? L).bind fun M=>
 (K.2.stV M.1 (M.2+4) 1 K.1).bind fun N=>
 some (.bool true,N)))))
noncomputable abbrev ziT:zac:=lS Tryz.prog Lk0 Tryz.f95 zaG
theorem ziU:Lk0.func 95=some (95,Tryz.f95):=by kernel_rfl
theorem zbZ [Sym] (p':Value) (l':Value) (st:SS) {r:Value×SS} (h:zbY cc ziT p' l' st=some r):cc 95 [p',l'] st=some r:=
 zah (li:=zaG) zai zaq ziU rfl (fun _=>rfl) (.trans (by kernel_rfl) h)
def zeI:LoopI:=⟨[(0,.any),(2,.any),(4,.any)],[(.exit 2,[(2,.any),(4,.any)]),(.ret,[(2,.any),(3,.bool)])]⟩
def zeJ:LoopI:=⟨[(0,.any),(2,.any),(4,.any)],[(.exit 0,[(2,.any),(4,.any)]),(.ret,[(2,.any),(3,.bool)])]⟩
def zfz (n:Nat):Option LoopI:=cond (Nat.beq n 11) (some zeJ) (cond (Nat.beq n 17) (some zeI) (none))
noncomputable def zcB (cf:zak) (lf:zac) (p':Value) (st:SS):Option (Value×SS):=
 let a:SS:=st.new (.cells [.int .i64 0,.string ⟨#[]⟩,.string ⟨#[]⟩,.slice none 0 0,.slice none 0 0] 0)
 (cf 69 [p'] a).bind fun b=>
 ((zdQ Lk0 150 3 b.1).bind (asI .i64)).bind fun c=>
 let d:SS:=b.2.new (.cells [.int .i64 0,.string ⟨#[]⟩,.string ⟨#[]⟩,.slice none 0 0,.slice none 0 0] 0)
 (d.st b.2.next 0 [.int .i64 c,.string ⟨#[]⟩,.string ⟨#[]⟩,.slice none 0 0,.slice none 0 0]).bind fun e=>
 (cf 91 [p'] e).bind fun f=>
 let g:SS:=f.2.new (.cells [.int .i64 0,.string ⟨#[]⟩,.int .i64 0,.int .i64 0,.int .i64 0] 0)
 (g.stV f.2.next 0 5 f.1).bind fun h=>
 (cf 69 [p'] h).bind fun i=>
 ((zdQ Lk0 150 0 i.1).bind (asI .i64)).bind fun j=>
 cond (decide (j=1)) (
 ((i.2.ld f.2.next 0).bind (asI .i64)).bind fun k=>
 cond (decide (k=3)) (
 ((i.2.ld f.2.next 1).bind asS).bind fun l=>
 cond (eqT l ⟨#[58]⟩) (
 (cf 69 [p'] i.2).bind fun m=>
 ((zdQ Lk0 150 1 m.1).bind asS).bind fun n=>
 (m.2.st b.2.next 1 [.string n]).bind fun o=>
 (zav p').bind fun p=>
 (addr? p).bind fun q=>
 ((o.ld q.1 (q.2+1)).bind (asI .i64)).bind fun r=>
 let s:Int:=IntKind.wrap .i64 (r+2)
 (zav p').bind fun t=>
 (addr? t).bind fun u=>
 (o.st u.1 (u.2+1) [.int .i64 s]).bind fun v=>
 (cf 92 [p',.string ⟨#[46]⟩] v).bind fun w=>
 ((some w.1).bind asB).bind fun x=>
 cond x (
 (cf 93 [p'] w.2).bind fun y=>
 ((zal y.1 0).bind asS).bind fun z=>
 ((zal y.1 1).bind asB).bind fun A=>
 (y.2.st b.2.next 2 [.string z]).bind fun B=>
 cond (!A) (
 (B.ldN b.2.next 0 5).bind fun C=>
 (B.stV st.next 0 5 C).bind fun D=>
 (D.rdN st.next 0 5).bind fun E=>
 some (.tuple #[E,.bool false],D)) (
 (lf 11 [p',ptr st.next 0,ptr b.2.next 0] B).bind fun F=>
 cond (Nat.beq F.1 0) (
 (F.2.1[0]?).bind fun G=>
 (F.2.1[1]?).bind fun H=>
 (addr? H).bind fun I=>
 (F.2.2.ldN I.1 I.2 5).bind fun J=>
 (addr? G).bind fun K=>
 (F.2.2.stV K.1 K.2 5 J).bind fun L=>
 (addr? G).bind fun M=>
 (L.rdN M.1 M.2 5).bind fun N=>
 some (.tuple #[N,.bool true],L)) (
 (F.2.1[0]?).bind fun O=>
 ((F.2.1[1]?).bind asB).bind fun P=>
 (addr? O).bind fun Q=>
 (F.2.2.rdN Q.1 Q.2 5).bind fun R=>
 some (.tuple #[R,.bool P],F.2.2)))) (
 (lf 17 [p',ptr st.next 0,ptr b.2.next 0] w.2).bind fun S=>
 cond (Nat.beq S.1 0) (
 (S.2.1[0]?).bind fun T=>
 (S.2.1[1]?).bind fun U=>
 (addr? U).bind fun V=>
 (S.2.2.ldN V.1 V.2 5).bind fun W=>
 (addr? T).bind fun X=>
 (S.2.2.stV X.1 X.2 5 W).bind fun Y=>
 (addr? T).bind fun Z=>
 (Y.rdN Z.1 Z.2 5).bind fun aA=>
 some (.tuple #[aA,.bool true],Y)) (
 (S.2.1[0]?).bind fun aB=>
 ((S.2.1[1]?).bind asB).bind fun aC=>
 (addr? aB).bind fun aD=>
 (S.2.2.rdN aD.1 aD.2 5).bind fun aE=>
 some (.tuple #[aE,.bool aC],S.2.2)))) (
 (cf 92 [p',.string ⟨#[46]⟩] i.2).bind fun aF=>
 ((some aF.1).bind asB).bind fun aG=>
 cond aG (
 (cf 93 [p'] aF.2).bind fun aH=>
 ((zal aH.1 0).bind asS).bind fun aI=>
 ((zal aH.1 1).bind asB).bind fun aJ=>
 (aH.2.st b.2.next 2 [.string aI]).bind fun aK=>
 cond (!aJ) (
 (aK.ldN b.2.next 0 5).bind fun aL=>
 (aK.stV st.next 0 5 aL).bind fun aM=>
 (aM.rdN st.next 0 5).bind fun aN=>
 some (.tuple #[aN,.bool false],aM)) (
 (lf 11 [p',ptr st.next 0,ptr b.2.next 0] aK).bind fun aO=>
 cond (Nat.beq aO.1 0) (
 (aO.2.1[0]?).bind fun aP=>
 (aO.2.1[1]?).bind fun aQ=>
 (addr? aQ).bind fun aR=>
 (aO.2.2.ldN aR.1 aR.2 5).bind fun aS=>
 (addr? aP).bind fun aT=>
 (aO.2.2.stV aT.1 aT.2 5 aS).bind fun aU=>
 (addr? aP).bind fun aV=>
 (aU.rdN aV.1 aV.2 5).bind fun aW=>
 some (.tuple #[aW,.bool true],aU)) (
 (aO.2.1[0]?).bind fun aX=>
 ((aO.2.1[1]?).bind asB).bind fun aY=>
 (addr? aX).bind fun aZ=>
 (aO.2.2.rdN aZ.1 aZ.2 5).bind fun bA=>
 some (.tuple #[bA,.bool aY],aO.2.2)))) (
 (lf 17 [p',ptr st.next 0,ptr b.2.next 0] aF.2).bind fun bB=>
 cond (Nat.beq bB.1 0) (
 (bB.2.1[0]?).bind fun bC=>
 (bB.2.1[1]?).bind fun bD=>
 (addr? bD).bind fun bE=>
 (bB.2.2.ldN bE.1 bE.2 5).bind fun bF=>
 (addr? bC).bind fun bG=>
 (bB.2.2.stV bG.1 bG.2 5 bF).bind fun bH=>
 (addr? bC).bind fun bI=>
 (bH.rdN bI.1 bI.2 5).bind fun bJ=>
 some (.tuple #[bJ,.bool true],bH)) (
 (bB.2.1[0]?).bind fun bK=>
 ((bB.2.1[1]?).bind asB).bind fun bL=>
 (addr? bK).bind fun bM=>
 (bB.2.2.rdN bM.1 bM.2 5).bind fun bN=>
 some (.tuple #[bN,.bool bL],bB.2.2))))) (
 (cf 92 [p',.string ⟨#[46]⟩] i.2).bind fun bO=>
 ((some bO.1).bind asB).bind fun bP=>
 cond bP (
 (cf 93 [p'] bO.2).bind fun bQ=>
 ((zal bQ.1 0).bind asS).bind fun bR=>
 ((zal bQ.1 1).bind asB).bind fun bS=>
 (bQ.2.st b.2.next 2 [.string bR]).bind fun bT=>
 cond (!bS) (
 (bT.ldN b.2.next 0 5).bind fun bU=>
 (bT.stV st.next 0 5 bU).bind fun bV=>
 (bV.rdN st.next 0 5).bind fun bW=>
 some (.tuple #[bW,.bool false],bV)) (
 (lf 11 [p',ptr st.next 0,ptr b.2.next 0] bT).bind fun bX=>
 cond (Nat.beq bX.1 0) (
 (bX.2.1[0]?).bind fun bY=>
 (bX.2.1[1]?).bind fun bZ=>
 (addr? bZ).bind fun cA=>
 (bX.2.2.ldN cA.1 cA.2 5).bind fun cB=>
 (addr? bY).bind fun cC=>
 (bX.2.2.stV cC.1 cC.2 5 cB).bind fun cD=>
 (addr? bY).bind fun cE=>
 (cD.rdN cE.1 cE.2 5).bind fun cF=>
 some (.tuple #[cF,.bool true],cD)) (
 (bX.2.1[0]?).bind fun cG=>
 ((bX.2.1[1]?).bind asB).bind fun cH=>
 (addr? cG).bind fun cI=>
 (bX.2.2.rdN cI.1 cI.2 5).bind fun cJ=>
 some (.tuple #[cJ,.bool cH],bX.2.2)))) (
 (lf 17 [p',ptr st.next 0,ptr b.2.next 0] bO.2).bind fun cK=>
 cond (Nat.beq cK.1 0) (
 (cK.2.1[0]?).bind fun cL=>
 (cK.2.1[1]?).bind fun cM=>
 (addr? cM).bind fun cN=>
 (cK.2.2.ldN cN.1 cN.2 5).bind fun cO=>
 (addr? cL).bind fun cP=>
 (cK.2.2.stV cP.1 cP.2 5 cO).bind fun cQ=>
 (addr? cL).bind fun cR=>
 (cQ.rdN cR.1 cR.2 5).bind fun cS=>
 some (.tuple #[cS,.bool true],cQ)) (
 (cK.2.1[0]?).bind fun cT=>
 ((cK.2.1[1]?).bind asB).bind fun cU=>
 (addr? cT).bind fun cV=>
 (cK.2.2.rdN cV.1 cV.2 5).bind fun cW=>
 some (.tuple #[cW,.bool cU],cK.2.2))))) (
 (cf 92 [p',.string ⟨#[46]⟩] i.2).bind fun cX=>
 ((some cX.1).bind asB).bind fun cY=>
 cond cY (
 (cf 93 [p'] cX.2).bind fun cZ=>
 ((zal cZ.1 0).bind asS).bind fun dA=>
 ((zal cZ.1 1).bind asB).bind fun dB=>
 (cZ.2.st b.2.next 2 [.string dA]).bind fun dC=>
 cond (!dB) (
 (dC.ldN b.2.next 0 5).bind fun dD=>
 (dC.stV st.next 0 5 dD).bind fun dE=>
 (dE.rdN st.next 0 5).bind fun dF=>
 some (.tuple #[dF,.bool false],dE)) (
 (lf 11 [p',ptr st.next 0,ptr b.2.next 0] dC).bind fun dG=>
 cond (Nat.beq dG.1 0) (
 (dG.2.1[0]?).bind fun dH=>
 (dG.2.1[1]?).bind fun dI=>
 (addr? dI).bind fun dJ=>
 (dG.2.2.ldN dJ.1 dJ.2 5).bind fun dK=>
 (addr? dH).bind fun dL=>
 (dG.2.2.stV dL.1 dL.2 5 dK).bind fun dM=>
 (addr? dH).bind fun dN=>
 (dM.rdN dN.1 dN.2 5).bind fun dO=>
 some (.tuple #[dO,.bool true],dM)) (
 (dG.2.1[0]?).bind fun dP=>
 ((dG.2.1[1]?).bind asB).bind fun dQ=>
 (addr? dP).bind fun dR=>
 (dG.2.2.rdN dR.1 dR.2 5).bind fun dS=>
 some (.tuple #[dS,.bool dQ],dG.2.2)))) (
 (lf 17 [p',ptr st.next 0,ptr b.2.next 0] cX.2).bind fun dT=>
 cond (Nat.beq dT.1 0) (
 (dT.2.1[0]?).bind fun dU=>
 (dT.2.1[1]?).bind fun dV=>
 (addr? dV).bind fun dW=>
 (dT.2.2.ldN dW.1 dW.2 5).bind fun dX=>
 (addr? dU).bind fun dY=>
 (dT.2.2.stV dY.1 dY.2 5 dX).bind fun dZ=>
 (addr? dU).bind fun gA=>
 (dZ.rdN gA.1 gA.2 5).bind fun gB=>
 some (.tuple #[gB,.bool true],dZ)) (
 (dT.2.1[0]?).bind fun gC=>
 ((dT.2.1[1]?).bind asB).bind fun gD=>
 (addr? gC).bind fun gE=>
 (dT.2.2.rdN gE.1 gE.2 5).bind fun gF=>
 some (.tuple #[gF,.bool gD],dT.2.2))))
noncomputable abbrev zaH:zac:=lS Tryz.prog Lk0 Tryz.f68 zfz
theorem ziV:Lk0.func 68=some (68,Tryz.f68):=by kernel_rfl
theorem zfA [Sym] (p':Value) (st:SS) {r:Value×SS} (h:zcB cc zaH p' st=some r):cc 68 [p'] st=some r:=
 zah (li:=zfz) zai zaq ziV rfl (fun _=>rfl) (.trans (by kernel_rfl) h)
noncomputable def zcu (cf:zak) (lf:zac) (p':Value) (t2':Value) (l':Value) (st:SS):Option (Nat×List Value×SS):=
 (cf 69 [p'] st).bind fun a=>
 ((zdQ Lk0 150 0 a.1).bind (asI .i64)).bind fun b=>
 cond (!(decide (b=0))) (
 (cf 94 [p'] a.2).bind fun c=>
 (zal c.1 0).bind fun d=>
 ((zal c.1 1).bind asB).bind fun e=>
 let f:SS:=c.2.new (.cells [.string ⟨#[]⟩,.int .i64 0,.int .i64 0] 0)
 (f.stV c.2.next 0 3 d).bind fun g=>
 cond (!e) (
 (addr? l').bind fun h=>
 (g.ldN h.1 h.2 5).bind fun i=>
 (addr? t2').bind fun j=>
 (g.stV j.1 j.2 5 i).bind fun k=>
 some (1,[t2',.bool false],k)) (
 (addr? l').bind fun l=>
 (g.ld l.1 (l.2+3)).bind fun m=>
 (g.ldN c.2.next 0 3).bind fun n=>
 (zaE n 3).bind fun o=>
 let p:SS:=g.new (.cells (o++([])) 3)
 (p.app 3 32 m (.slice (some ⟨g.next,0,none⟩) 1 1)).bind fun q=>
 (addr? l').bind fun r=>
 (q.2.stV r.1 (r.2+3) 1 q.1).bind fun s=>
 lf 11 [p',t2',l'] s)) (
 some (0,[t2',l'],a.2))
theorem zcP [Sym] (p':Value) (t2':Value) (l':Value) (st:SS) {r:Nat×List Value×SS} (h:zcu cc zaH p' t2' l' st=some r):zaH 11 [p',t2',l'] st=some r:=
 zax zai zaq (key:=11) (I:=zeJ) rfl (by kernel_rfl) (by kernel_rfl) rfl rfl (.trans (by kernel_rfl) h)
noncomputable def zcv (cf:zak) (lf:zac) (p':Value) (t2':Value) (l':Value) (st:SS):Option (Nat×List Value×SS):=
 (cf 69 [p'] st).bind fun a=>
 ((zdQ Lk0 150 0 a.1).bind (asI .i64)).bind fun b=>
 cond (!(decide (b=0))) (
 (cf 95 [p',l'] a.2).bind fun c=>
 ((some c.1).bind asB).bind fun d=>
 cond (!d) (
 (addr? l').bind fun e=>
 (c.2.ldN e.1 e.2 5).bind fun f=>
 (addr? t2').bind fun g=>
 (c.2.stV g.1 g.2 5 f).bind fun h=>
 some (1,[t2',.bool false],h)) (
 lf 17 [p',t2',l'] c.2)) (
 some (0,[t2',l'],a.2))
theorem zcQ [Sym] (p':Value) (t2':Value) (l':Value) (st:SS) {r:Nat×List Value×SS} (h:zcv cc zaH p' t2' l' st=some r):zaH 17 [p',t2',l'] st=some r:=
 zax zai zaq (key:=17) (I:=zeI) rfl (by kernel_rfl) (by kernel_rfl) rfl rfl (.trans (by kernel_rfl) h)
def zhD:LoopI:=⟨[(3,.any),(5,.any),(8,.any),(9,.any)],[(.exit 0,[(3,.any),(9,.any)]),(.ret,[(2,.any),(3,.any),(4,.int .i64)])]⟩
def zh6 (n:Nat):Option LoopI:=cond (Nat.beq n 6) (some zhD) (none)
noncomputable def zfY (cf:zak) (lf:zac) (text':ByteArray) (st:SS):Option (Value×SS):=
 let a:SS:=st.new (.cells [.int .i64 0,.int .i64 0] 0)
 (cf 67 [.string text'] a).bind fun b=>
 (zal b.1 0).bind fun c=>
 (zal b.1 1).bind fun d=>
 ((zal b.1 2).bind (asI .i64)).bind fun e=>
 let f:SS:=b.2.new (.cells [.int .i64 0,.int .i64 0] 0)
 (f.stV b.2.next 0 2 d).bind fun g=>
 cond (!(decide (e=0))) (
 (g.ldN b.2.next 0 2).bind fun h=>
 (g.stV st.next 0 2 h).bind fun i=>
 (i.rdN st.next 0 2).bind fun j=>
 some (.tuple #[.slice none 0 0,j,.int .i64 e],i)) (
 (zaE c 1).bind fun k=>
 let l:SS:=g.new (.cells (.agg ⟨spl [.slice none 0 0,.int .i64 0] 0 k⟩:Value).cells.toList 0)
 (lf 6 [ptr st.next 0,c,ptr g.next 0,.slice none 0 0] l).bind fun m=>
 cond (Nat.beq m.1 0) (
 (m.2.1[0]?).bind fun n=>
 (m.2.1[1]?).bind fun o=>
 (addr? n).bind fun p=>
 (m.2.2.st p.1 p.2 [.int .i64 0,.int .i64 0]).bind fun q=>
 (addr? n).bind fun r=>
 (q.rdN r.1 r.2 2).bind fun s=>
 some (.tuple #[o,s,.int .i64 0],q)) (
 (m.2.1[0]?).bind fun t=>
 (m.2.1[1]?).bind fun u=>
 ((m.2.1[2]?).bind (asI .i64)).bind fun v=>
 (addr? u).bind fun w=>
 (m.2.2.rdN w.1 w.2 2).bind fun x=>
 some (.tuple #[t,x,.int .i64 v],m.2.2)))
noncomputable abbrev zbO:zac:=lS Tryz.prog Lk0 Tryz.f42 zh6
theorem zmX:Lk0.func 42=some (42,Tryz.f42):=by kernel_rfl
theorem zfZ [Sym] (text':ByteArray) (st:SS) {r:Value×SS} (h:zfY cc zbO text' st=some r):cc 42 [.string text'] st=some r:=
 zah (li:=zh6) zai zaq zmX rfl (fun _=>rfl) (.trans (by kernel_rfl) h)
noncomputable def zb8 (cf:zak) (lf:zac) (t3':Value) (tokens':Value) (p':Value) (out':Value) (st:SS):Option (Nat×List Value×SS):=
 (zav p').bind fun a=>
 (addr? a).bind fun b=>
 ((st.ld b.1 (b.2+1)).bind (asI .i64)).bind fun c=>
 ((lenV tokens').bind (asI .i64)).bind fun d=>
 cond (decide (c<d)) (
 (cf 68 [p'] st).bind fun e=>
 (zal e.1 0).bind fun f=>
 ((zal e.1 1).bind asB).bind fun g=>
 let h:SS:=e.2.new (.cells [.int .i64 0,.string ⟨#[]⟩,.string ⟨#[]⟩,.slice none 0 0,.slice none 0 0] 0)
 (h.stV e.2.next 0 5 f).bind fun i=>
 cond (!g) (
 (cf 69 [p'] i).bind fun j=>
 ((zdQ Lk0 150 3 j.1).bind (asI .i64)).bind fun k=>
 (cf 69 [p'] j.2).bind fun l=>
 ((zdQ Lk0 150 4 l.1).bind (asI .i64)).bind fun m=>
 (addr? t3').bind fun n=>
 (l.2.st n.1 n.2 [.int .i64 k,.int .i64 m]).bind fun o=>
 some (1,[.slice none 0 0,t3',.int .i64 4],o)) (
 (zav p').bind fun p=>
 (addr? p).bind fun q=>
 ((i.ld q.1 (q.2+1)).bind (asI .i64)).bind fun r=>
 let s:Int:=IntKind.wrap .i64 (r+1)
 (zav p').bind fun t=>
 (addr? t).bind fun u=>
 (i.st u.1 (u.2+1) [.int .i64 s]).bind fun v=>
 ((v.ld e.2.next 1).bind asS).bind fun w=>
 cond (!(eqT w ⟨#[]⟩)) (
 (v.ldN e.2.next 0 5).bind fun x=>
 (zaE x 5).bind fun y=>
 let z:SS:=v.new (.cells (y++([])) 5)
 (z.app 5 88 out' (.slice (some ⟨v.next,0,none⟩) 1 1)).bind fun A=>
 lf 6 [t3',tokens',p',A.1] A.2) (
 ((v.ld e.2.next 2).bind asS).bind fun B=>
 cond (!(eqT B ⟨#[]⟩)) (
 (v.ldN e.2.next 0 5).bind fun C=>
 (zaE C 5).bind fun D=>
 let E:SS:=v.new (.cells (D++([])) 5)
 (E.app 5 88 out' (.slice (some ⟨v.next,0,none⟩) 1 1)).bind fun F=>
 lf 6 [t3',tokens',p',F.1] F.2) (
 (v.ld e.2.next 4).bind fun G=>
 ((lenV G).bind (asI .i64)).bind fun H=>
 cond (decide (0<H)) (
 (v.ldN e.2.next 0 5).bind fun I=>
 (zaE I 5).bind fun J=>
 let K:SS:=v.new (.cells (J++([])) 5)
 (K.app 5 88 out' (.slice (some ⟨v.next,0,none⟩) 1 1)).bind fun L=>
 lf 6 [t3',tokens',p',L.1] L.2) (
 lf 6 [t3',tokens',p',out'] v))))) (
 some (0,[t3',out'],st))
theorem zdm [Sym] (t3':Value) (tokens':Value) (p':Value) (out':Value) (st:SS) {r:Nat×List Value×SS} (h:zb8 cc zbO t3' tokens' p' out' st=some r):zbO 6 [t3',tokens',p',out'] st=some r:=
 zax zai zaq (key:=6) (I:=zhD) rfl (by kernel_rfl) (by kernel_rfl) rfl rfl (.trans (by kernel_rfl) h)
end Go.Proofs.YtifploedaacedaaGreatDoorE
namespace Go.Proofs.YtifploedaacedaaGreatDoorE
open Go Go.E Go.Proofs
theorem zbM (b k:Nat):zav (ptr b k)=some (ptr b k):=rfl
structure PHas (st:SS) (b:Nat) (v:Value) (us:List (Nat×Tok)) (i:Nat):Prop where
 mem:st.mem.get b=some (.cells [v,.int .i64 i] 0)
 lt:b<st.next
 rd:Rd st v (rowsL us) 5 us.length
 sz:us.length≤1099511627776
theorem PHas.ext {st st':SS} {b i:Nat} {v:Value} {us:List (Nat×Tok)} (h:PHas st b v us i) (x:Ext st st'):PHas st' b v us i:=
 ⟨x.get h.lt h.mem,zll h.lt x.next,h.rd.ext x,h.sz⟩
theorem PHas.ro {st:SS} {b i n:Nat} {v:Value} {us:List (Nat×Tok)} (h:PHas st b v us i):PHas (st.ro n) b v us i:=⟨h.mem,h.lt,h.rd,h.sz⟩
structure PAt (st:SS) (b:Nat) (v:Value) (us:List (Nat×Tok)) (i:Nat):Prop where
 blk:At st b [v,.int .i64 i]
 rd:Rd st v (rowsL us) 5 us.length
 vb:∀ j k l q,v=.slice (some ⟨j,k,none⟩) l q→j<b
 sz:us.length≤1099511627776
 ll:st.lim≤st.next
section
variable {S : List Nat} {st st' : SS} {b i : Nat} {v : Value} {us : List (Nat × Tok)}
theorem PAt.has (h:PAt st b v us i):PHas st b v us i:=⟨h.blk.mem,h.blk.lt,h.rd,h.sz⟩
theorem PAt.mod (h:PAt st b v us i) (m:Mod S st st') (hS:∀ j,j∈S→b<j):PAt st' b v us i:=
 ⟨h.blk.mod m (fun hm=>by have:=hS b hm;omega),h.rd.mod m (fun j k l q e hm=>by have:=hS j hm;have:=h.vb j k l q e;omega),h.vb,h.sz,m.ll h.ll⟩
theorem PAt.ext (h:PAt st b v us i) (x:Ext st st'):PAt st' b v us i:=h.mod (S:=[]) (.ofExt x) (fun _ hj=>by cases hj)
theorem PAt.modI {j:Nat} (h:PAt st b v us i) (m:Mod [j] st st') (hj:b<j):PAt st' b v us i:=h.mod m fun k hk=>(show k=j by simpa using hk) ▸ hj
theorem PAt.move (h:PAt st b v us i) (i':Nat):∃ st',st.st b 1 [.int .i64 i']=some st'∧PAt st' b v us i'∧Mod [b] st st'∧st'.next=st.next:=by
 obtain ⟨st',e,a,m,n⟩:=h.blk.sto (k:=1) (vs:=[.int .i64 i']) (row':=[v,.int .i64 i']) rfl rfl
 exact ⟨st',e,⟨a,h.rd.mod m (fun j k l q e hm=>by have:j=b:=by simpa using hm
                                                  have:=h.vb j k l q e;omega),h.vb,h.sz,m.ll h.ll⟩,m,n⟩
end
abbrev Z5:List Value:=[.int .i64 0,.string ⟨#[]⟩,.int .i64 0,.int .i64 0,.int .i64 0]
theorem zcJ [Sym] {st:SS} {b i:Nat} {v:Value} {us:List (Nat×Tok)} (h:PHas st b v us i) {t:Nat×Tok} (ht:us[i]?=some t):
  ∃ n,st.next≤n∧cc 69 [ptr b 0] st=some (.agg (za5 t.1 t.2).toArray,st.adv n):=by
 obtain ⟨st10,e10,a10,x10,_⟩:=zaQ (st:=st.ro st.next) (zlr _) (r:=Z5) (zaJ (za5 t.1 t.2)) (n:=5) rfl rfl rfl
 have h1:=(h.ro (n:=st.next)).ext ((Ext.refl (st.ro st.next)).new (.cells Z5 0))
 have hlt:(i:Int)<(us.length:Int):=by have:=(List.getElem?_eq_some_iff.1 ht).1;omega
 obtain ⟨q,b1,b2,_⟩:=h1.rd.load (j:=(i:Int)) (by omega) hlt (zhX us i t ht) rfl
 have l0:((st.ro st.next).new (.cells Z5 0)).ld b 0=some v:=by rw [SS.ld_cells h1.mem];rfl
 have l1:((st.ro st.next).new (.cells Z5 0)).ld b 1=some (.int .i64 i):=by rw [SS.ld_cells h1.mem];rfl
 have hr:st10.rdN (st.ro st.next).next 0 5=some (.agg (za5 t.1 t.2).toArray):=a10.rdN rfl
 refine ⟨st10.next,x10.next,zjL _ st ?_⟩
 have e10':((st.ro st.next).new (.cells Z5 0)).stV st.next 0 5 (.agg (za5 t.1 t.2).toArray)=some st10:=e10
 have hr':st10.rdN st.next 0 5=some (.agg (za5 t.1 t.2).toArray):=hr
 simp only [zgS,SS.ro_next,zbM,zob,zad,l0,Nat.zero_add,l1,zaa,b1,b2,e10',hr']
 rfl
theorem zcW {ln:Nat} {t:Tok}:(zdQ Lk0 150 0 (.agg (za5 ln t).toArray)).bind (asI .i64)=some (t.kd:Int)∧(zdQ Lk0 150 1 (.agg (za5 ln t).toArray)).bind asS=some (mkS t.tx)∧
  (zdQ Lk0 150 3 (.agg (za5 ln t).toArray)).bind (asI .i64)=some (ln:Int)∧(zdQ Lk0 150 4 (.agg (za5 ln t).toArray)).bind (asI .i64)=some (t.col:Int):=⟨by kernel_rfl,by kernel_rfl,by kernel_rfl,by kernel_rfl⟩
theorem zut [Sym] {st:SS} {b i:Nat} {v:Value} {us:List (Nat×Tok)} (h:PHas st b v us i) {t u:Nat×Tok} (ht:us[i]?=some t) (hu:us[if t.2.kd=0 then i else i+1]?=some u):
  ∃ n,st.next≤n∧cc 91 [ptr b 0] st=some (.agg (za5 u.1 u.2).toArray,st.adv n):=by
 have h1:=(h.ro (n:=st.next)).ext ((Ext.refl (st.ro st.next)).new (.cells Z5 0))
 obtain ⟨n,hn,c1⟩:=zcJ h1 ht
 have a0:At ((st.ro st.next).new (.cells Z5 0)) st.next Z5:=At.new (st:=st.ro st.next) (zlr _) Z5
 have h2:=h1.ext (Ext.advR _ hn)
 have a2:=a0.adv hn
 by_cases hk:t.2.kd=0
 ·rw [if_pos hk,ht] at hu
  cases hu
  obtain ⟨m,hm,c2⟩:=zcJ h2 ht
  have a3:=a2.adv hm
  obtain ⟨st5,e5,a5,m5,n5⟩:=a3.stV (k:=0) (zaJ (za5 t.1 t.2)) (n:=5) rfl rfl (row':=za5 t.1 t.2) rfl
  have hr:st5.rdN st.next 0 5=some (.agg (za5 t.1 t.2).toArray):=a5.rdN rfl
  have hk':(t.2.kd:Int)=0:=by omega
  have hle:st.next≤st5.next:=by rw [n5];simp at hn hm ⊢;omega
  refine ⟨st5.next,hle,zfx _ st ?_⟩
  simp only [zew,SS.ro_next,c1,c2,zob,zcW.1,zdt hk',zct,e5,hr]
  rfl
 ·rw [if_neg hk] at hu
  have hlt:((i+1:Nat):Int)<(us.length:Int):=by have:=(List.getElem?_eq_some_iff.1 hu).1;omega
  obtain ⟨q,b1,b2,_⟩:=h2.rd.load (j:=((i+1:Nat):Int)) (by omega) hlt (zhX us (i+1) u hu) rfl
  have hk':¬ (t.2.kd:Int)=0:=by omega
  obtain ⟨st5,e5,a5,m5,n5⟩:=a2.stV (k:=0) (zaJ (za5 u.1 u.2)) (n:=5) rfl rfl (row':=za5 u.1 u.2) rfl
  have hr:st5.rdN st.next 0 5=some (.agg (za5 u.1 u.2).toArray):=a5.rdN rfl
  have l0:(((st.ro st.next).new (.cells Z5 0)).adv n).ld b 0=some v:=by rw [SS.ld_cells h2.mem];rfl
  have l1:(((st.ro st.next).new (.cells Z5 0)).adv n).ld b 1=some (.int .i64 i):=by rw [SS.ld_cells h2.mem];rfl
  have hw:IntKind.wrap .i64 ((i:Int)+1)=((i+1:Nat):Int):=by have:=h.sz;rw [wrap64 (by omega) (by omega)];omega
  have hle:st.next≤st5.next:=by rw [n5];simp at hn ⊢;omega
  refine ⟨st5.next,hle,zfx _ st ?_⟩
  simp only [zew,SS.ro_next,c1,zob,zcW.1,zdf hk',zcf,zbM,zad,l0,Nat.zero_add,l1,zaa,hw,b1,b2,e5,hr]
  rfl
theorem zny {st:SS} {n:Nat} (hl:st.lim≤n) (t:Nat×Tok):∃ st',((st.adv n).new (.cells Z5 0)).stV n 0 5 (.agg (za5 t.1 t.2).toArray)=some st'∧At st' n (za5 t.1 t.2)∧Ext (st.adv n) st':=by
 obtain ⟨st',a,b,c,_⟩:=zaQ (st:=st.adv n) hl (r:=Z5) (zaJ (za5 t.1 t.2)) (n:=5) rfl rfl rfl
 exact ⟨st',a,b,c⟩
theorem zec (a b:List UInt8):eqT (mkS a) (mkS b)=decide (a=b):=by rw [zep,zbJ,zbJ]
theorem zjM [Sym] {st:SS} {b i:Nat} {v:Value} {us:List (Nat×Tok)} (h:PAt st b v us i) {t:Nat×Tok} (ht:us[i]?=some t) (sg:List UInt8):
  ∃ st',cc 92 [ptr b 0,.string (mkS sg)] st=some (.bool (zaA t.2 sg),st')∧Mod [b] st st'∧PAt st' b v us (if zaA t.2 sg=true then i+1 else i):=by
 obtain ⟨n,hn,h1⟩:=zcJ h.has ht
 obtain ⟨st3,e3,a3,x3⟩:=zny (st:=st) (n:=n) (zlt h.ll hn) t
 have x:Ext st st3:=(Ext.advR st hn).trans x3
 have hp:=h.ext x
 have k0:st3.ld n 0=some (.int .i64 t.2.kd):=a3.ld
 have k1:st3.ld n 1=some (.string (mkS t.2.tx)):=a3.ld
 have hi:=(List.getElem?_eq_some_iff.1 ht).1
 have hsz:=h.sz
 by_cases hk:t.2.kd=3
 ·have hk':(t.2.kd:Int)=3:=by omega
  by_cases hx:t.2.tx=sg
  ·have hs:zaA t.2 sg=true:=by simp [zaA,hk,hx]
   obtain ⟨st4,e4,p4,m4,_⟩:=hp.move (i+1)
   have hl1:st3.ld b 1=some (.int .i64 i):=hp.blk.ld
   rw [hs]
   refine ⟨st4,zdx _ _ st ?_,(Mod.ofExt x).then m4,p4⟩
   simp only [zc3,h1,zob,SS.adv_next,e3,k0,k1,zaa,zab,zdt hk',znt,zcf,zec,zdt hx,zbM,zad,Nat.zero_add,hl1,za6 (show i≤1099511627776 by omega),e4]
  ·have hs:zaA t.2 sg=false:=by simp [zaA,hk,hx]
   rw [hs]
   refine ⟨st3,zdx _ _ st ?_,.ofExt x,hp⟩
   simp only [zc3,h1,zob,SS.adv_next,e3,k0,k1,zaa,zab,zdt hk',znt,zcf,zec,zdf hx,znf,zct]
 ·have hk':¬ (t.2.kd:Int)=3:=by omega
  have hs:zaA t.2 sg=false:=by simp [zaA,hk]
  rw [hs]
  refine ⟨st3,zdx _ _ st ?_,.ofExt x,hp⟩
  simp only [zc3,h1,zob,SS.adv_next,e3,k0,zaa,zdf hk',znf,zct]
theorem zqb [Sym] {st:SS} {b i:Nat} {v:Value} {us:List (Nat×Tok)} (h:PAt st b v us i) {t:Nat×Tok} (ht:us[i]?=some t):
  ∃ st',cc 93 [ptr b 0] st=some (.tuple #[.string (mkS (if t.2.kd=1 then t.2.tx else [])),.bool (decide (t.2.kd=1))],st')∧Mod [b] st st'∧PAt st' b v us (if t.2.kd=1 then i+1 else i):=by
 obtain ⟨n,hn,h1⟩:=zcJ h.has ht
 obtain ⟨st3,e3,a3,x3⟩:=zny (st:=st) (n:=n) (zlt h.ll hn) t
 have x:Ext st st3:=(Ext.advR st hn).trans x3
 have hp:=h.ext x
 have k0:st3.ld n 0=some (.int .i64 t.2.kd):=a3.ld
 have hi:=(List.getElem?_eq_some_iff.1 ht).1
 have hsz:=h.sz
 by_cases hk:t.2.kd=1
 ·have hk':(t.2.kd:Int)=1:=by omega
  obtain ⟨st4,e4,p4,m4,_⟩:=hp.move (i+1)
  have hl1:st3.ld b 1=some (.int .i64 i):=hp.blk.ld
  have hne:n≠b:=by have:=h.blk.lt;omega
  have k1:st4.ld n 1=some (.string (mkS t.2.tx)):=(a3.mod m4 (by simpa using hne)).ld
  rw [if_pos hk,if_pos hk,zdt hk]
  refine ⟨st4,zfy _ st ?_,(Mod.ofExt x).then m4,p4⟩
  simp only [zex,h1,zob,SS.adv_next,e3,k0,zaa,zdt hk',znt,zcf,zbM,zad,Nat.zero_add,hl1,za6 (show i≤1099511627776 by omega),e4,k1,zab]
 ·have hk':¬ (t.2.kd:Int)=1:=by omega
  rw [if_neg hk,if_neg hk,zdf hk]
  refine ⟨st3,zfy _ st ?_,.ofExt x,hp⟩
  simp only [zex,h1,zob,SS.adv_next,e3,k0,zaa,zdf hk',znf,zct]
  rfl
theorem zjN [Sym] {st:SS} {b i:Nat} {v:Value} {us:List (Nat×Tok)} (h:PAt st b v us i) {t:Nat×Tok} (ht:us[i]?=some t):
  ∃ st',cc 111 [ptr b 0] st=some (.tuple #[.int .i64 (if t.2.kd=2 then t.2.nm else 0),.bool (decide (t.2.kd=2))],st')∧Mod [b] st st'∧PAt st' b v us (if t.2.kd=2 then i+1 else i):=by
 obtain ⟨n,hn,h1⟩:=zcJ h.has ht
 obtain ⟨st3,e3,a3,x3⟩:=zny (st:=st) (n:=n) (zlt h.ll hn) t
 have x:Ext st st3:=(Ext.advR st hn).trans x3
 have hp:=h.ext x
 have k0:st3.ld n 0=some (.int .i64 t.2.kd):=a3.ld
 have hi:=(List.getElem?_eq_some_iff.1 ht).1
 have hsz:=h.sz
 by_cases hk:t.2.kd=2
 ·have hk':(t.2.kd:Int)=2:=by omega
  obtain ⟨st4,e4,p4,m4,_⟩:=hp.move (i+1)
  have hl1:st3.ld b 1=some (.int .i64 i):=hp.blk.ld
  have hne:n≠b:=by have:=h.blk.lt;omega
  have k1:st4.ld n 2=some (.int .i64 t.2.nm):=(a3.mod m4 (by simpa using hne)).ld
  rw [if_pos hk,if_pos hk,zdt hk]
  refine ⟨st4,zeH _ st ?_,(Mod.ofExt x).then m4,p4⟩
  simp only [zdY,h1,zob,SS.adv_next,e3,k0,zaa,zdt hk',znt,zcf,zbM,zad,Nat.zero_add,hl1,za6 (show i≤1099511627776 by omega),e4,k1]
 ·have hk':¬ (t.2.kd:Int)=2:=by omega
  rw [if_neg hk,if_neg hk,zdf hk]
  refine ⟨st3,zeH _ st ?_,.ofExt x,hp⟩
  simp only [zdY,h1,zob,SS.adv_next,e3,k0,zaa,zdf hk',znf,zct]
structure LineAt (us:List (Nat×Tok)) (i ln:Nat) (l:List Tok):Prop where
 drop:∃ rest,us.drop i=(l.map fun t=>(ln,t))++rest
 lin:Lin l
 ok:∀ t∈l,TokOk t
theorem LineAt.head {us:List (Nat×Tok)} {i ln:Nat} {t:Tok} {r:List Tok} (h:LineAt us i ln (t::r)):us[i]?=some (ln,t):=by
 obtain ⟨rest,hr⟩:=h.drop
 have:=congrArg (·[0]?) hr
 simpa using this
theorem LineAt.tail {us:List (Nat×Tok)} {i ln:Nat} {t:Tok} {r:List Tok} (h:LineAt us i ln (t::r)) (hk:t.kd≠0):LineAt us (i+1) ln r:=by
 refine ⟨?_,h.lin.tail hk,fun u hu=>h.ok u (List.mem_cons_of_mem _ hu)⟩
 obtain ⟨rest,hr⟩:=h.drop
 refine ⟨rest,?_⟩
 have:=drop_cons h.head
 rw [hr] at this
 exact (List.cons.inj this).2.symm
theorem LineAt.tok {us:List (Nat×Tok)} {i ln:Nat} {t:Tok} {r:List Tok} (h:LineAt us i ln (t::r)):TokOk t:=h.ok t (List.mem_cons_self ..)
end Go.Proofs.YtifploedaacedaaGreatDoorE
namespace Go.Proofs.YtifploedaacedaaGreatDoorE
set_option maxRecDepth 20000
open Go Go.E Go.Proofs
noncomputable def zl4 (cf:zak) (lf:zac) (s':Value) (q':Nat) (st:SS):Option (Value×SS):=
 (cf 133 [s',.func (.func 113) #[] #[ptr q' 0]] (st.ro st.next)).bind fun a=>
 ((some a.1).bind (asI .i64)).bind fun b=>
 some (.bool (decide (0≤b)),st.adv a.2.next)
noncomputable abbrev zpK:zac:=lS Tryz.prog Lk0 Tryz.f112 zaG
theorem zpL:Lk0.func 112=some (112,Tryz.f112):=by kernel_rfl
theorem zpM [Sym] (s':Value) (q':Nat) (st:SS) {r:Value×SS} (h:zl4 cc zpK s' q' st=some r):cc 112 [s',.func (.func 113) #[] #[ptr q' 0]] st=some r:=
 zah (li:=zaG) zai zaq zpL rfl (fun _=>rfl) (.trans (by kernel_rfl) h)
def zlG:LoopI:=⟨[(0,.any),(1,.any),(7,.int .i64),(8,.int .i64)],[(.exit 0,[]),(.ret,[(4,.int .i64)])]⟩
def zmY (n:Nat):Option LoopI:=cond (Nat.beq n 2) (some zlG) (none)
noncomputable def znz (cf:zak) (lf:zac) (s':Value) (q':Nat) (st:SS):Option (Value×SS):=
 ((lenV s').bind (asI .i64)).bind fun a=>
 (lf 2 [s',.func (.func 113) #[] #[ptr q' 0],.int .i64 a,.int .i64 0] (st.ro st.next)).bind fun b=>
 cond (Nat.beq b.1 0) (
 some (.int .i64 (-1),st.adv b.2.2.next)) (
 ((b.2.1[0]?).bind (asI .i64)).bind fun c=>
 some (.int .i64 c,st.adv b.2.2.next))
noncomputable abbrev zf0:zac:=lS Tryz.prog Lk0 Tryz.f133 zmY
theorem zqV:Lk0.func 133=some (133,Tryz.f133):=by kernel_rfl
theorem zmZ [Sym] (s':Value) (q':Nat) (st:SS) {r:Value×SS} (h:znz cc zf0 s' q' st=some r):cc 133 [s',.func (.func 113) #[] #[ptr q' 0]] st=some r:=
 zah (li:=zmY) zai zaq zqV rfl (fun _=>rfl) (.trans (by kernel_rfl) h)
noncomputable def zha (cf:zak) (lf:zac) (s':Value) (q':Nat) (t7':Int) (t8':Int) (st:SS):Option (Nat×List Value×SS):=
 cond (decide (t8'<t7')) (
 (zar s' t8' 5).bind fun a=>
 (st.ldN a.1 a.2 5).bind fun b=>
 (cf 113 [b,ptr q' 0] st).bind fun c=>
 ((some c.1).bind asB).bind fun d=>
 cond d (
 some (1,[.int .i64 t8'],c.2)) (
 let e:Int:=IntKind.wrap .i64 (t8'+1)
 lf 2 [s',.func (.func 113) #[] #[ptr q' 0],.int .i64 t7',.int .i64 e] c.2)) (
 some (0,[],st))
theorem zgO [Sym] (s':Value) (q':Nat) (t7':Int) (t8':Int) (st:SS) {r:Nat×List Value×SS} (h:zha cc zf0 s' q' t7' t8' st=some r):zf0 2 [s',.func (.func 113) #[] #[ptr q' 0],.int .i64 t7',.int .i64 t8'] st=some r:=
 zax zai zaq (key:=2) (I:=zlG) rfl (by kernel_rfl) (by kernel_rfl) rfl rfl (.trans (by kernel_rfl) h)
noncomputable def zr8 (cf:zak) (lf:zac) (y':Value) (x1':Value) (st:SS):Option (Value×SS):=
 let a:SS:=(st.ro st.next).new (.cells (y':Value).cells.toList 0)
 ((a.ld ((st.ro st.next).next) 0).bind asS).bind fun b=>
 (addr? x1').bind fun c=>
 ((a.ld c.1 c.2).bind asS).bind fun d=>
 some (.bool (eqT b d),st.adv a.next)
noncomputable abbrev zr9:zac:=lS Tryz.prog Lk0 Tryz.f113 zaG
theorem zsa:Lk0.func 113=some (113,Tryz.f113):=by kernel_rfl
theorem zsb [Sym] (y':Value) (x1':Value) (st:SS) {r:Value×SS} (h:zr8 cc zr9 y' x1' st=some r):cc 113 [y',x1'] st=some r:=
 zah (li:=zaG) zai zaq zsa rfl (fun _=>rfl) (.trans (by kernel_rfl) h)
end Go.Proofs.YtifploedaacedaaGreatDoorE
namespace Go.Proofs.YtifploedaacedaaGreatDoorE
open Go Go.E Go.Proofs
def valRow (x:Val):List Value:=[.string (mkS x.nm),.int .i64 x.x,.int .i64 x.col]
def prRow (p:Pr):List Value:=[.string (mkS p.fd),.int .i64 p.col,.string (mkS p.v.nm),.int .i64 p.v.x,.int .i64 p.v.col]
abbrev Z3:List Value:=[.string ⟨#[]⟩,.int .i64 0,.int .i64 0]
theorem LineAt.sz {st:SS} {b i ln:Nat} {v:Value} {us:List (Nat×Tok)} {l:List Tok} (h:PAt st b v us i) (hl:LineAt us i ln l):i≤1099511627776:=by
 obtain ⟨t,r,rfl⟩:=hl.lin.ne
 have:=(List.getElem?_eq_some_iff.1 hl.head).1
 have:=h.sz
 omega
theorem zqc {n:Int} (h0:0≤n) (h1:n≤2147483647):IntKind.wrap .i64 (0-n)= -n:=by rw [wrap64 (by omega) (by omega)];omega
def ValR (b:Nat) (v:Value) (us:List (Nat×Tok)) (i:Nat) (st:SS) (r:Option (Value×SS)):Except Nat (Val×Nat)→Prop
 | .ok (x,n)=>∃ st',r=some (.tuple #[.agg (valRow x).toArray,.bool true],st')∧Mod [b] st st'∧PAt st' b v us (i+n)
 | .error o=>∃ w st',r=some (.tuple #[.agg (valRow w).toArray,.bool false],st')∧Mod [b] st st'∧PAt st' b v us (i+o)
theorem zpc [Sym] {st:SS} {b i ln:Nat} {v:Value} {us:List (Nat×Tok)} {l:List Tok} (h:PAt st b v us i) (hl:LineAt us i ln l):
  ValR b v us i st (cc 94 [ptr b 0] st) (zdB l):=by
 obtain ⟨t,r,rfl⟩:=hl.lin.ne
 have hb:=h.blk.lt
 have a1:At (st.new (.cells Z3 0)) st.next Z3:=At.new h.ll Z3
 have x1:Ext st (st.new (.cells Z3 0)):=(Ext.refl st).new _
 obtain ⟨n,hn,c1⟩:=zcJ (h.ext x1).has hl.head
 have hn':st.next+1≤n:=hn
 obtain ⟨s5,e5,a5,x5,_⟩:=ziK (st:=(st.new (.cells Z3 0)).adv n) (zlt h.ll (by simp;omega)) (r:=Z3) (row:=[.string ⟨#[]⟩,.int .i64 0,.int .i64 t.col]) rfl rfl
 have x05:Ext st s5:=x1.trans ((Ext.advR _ hn).trans x5)
 have b5:At s5 st.next Z3:=(a1.adv hn).ext x5
 obtain ⟨s6,c6,m6,p6⟩:=zjN (h.ext x05) hl.head
 have a6:=a5.mod m6 (by simp;omega)
 have b6:=b5.mod m6 (by simp;omega)
 have M6:Mod [b] st s6:=(Mod.ofExt x05).then m6
 have k4:=(zcW (ln:=ln) (t:=t)).2.2.2
 have cN:∀ row:List Value,row.length=3→∀ d:List Value,d=row→True:=fun _ _ _ _=>trivial
 by_cases h2:t.kd=2
 ·rw [if_pos h2,zdt h2] at c6
  rw [if_pos h2] at p6
  obtain ⟨s9,e9,a9,m9,_⟩:=a6.sto (k:=1) (vs:=[.int .i64 t.nm]) (row':=valRow ⟨[],t.nm,t.col⟩) rfl rfl
  have b9:=b6.mod m9 (by simp;omega)
  obtain ⟨s11,f1,f2,f3,f4,_⟩:=za9 (n:=3) b9 rfl a9 rfl rfl
  rw [zfX,if_pos h2]
  refine ⟨s11,zbc _ st ?_,(M6.thenI m9 (.inl (by simp;omega))).thenI f4 (.inl (zlr _)),(p6.modI m9 (by simp;omega)).modI f4 hb⟩
  simp only [zbg,c1,zob,k4,e5,c6,zal,List.getElem?_toArray,zgs,zgz,zaa,zaf,e9,zct,f1,f2,f3]
 ·rw [if_neg h2,zdf h2] at c6
  rw [if_neg h2] at p6
  obtain ⟨s9,e9,a9,m9,_⟩:=a6.sto (k:=1) (vs:=[.int .i64 0]) (row':=valRow ⟨[],0,t.col⟩) rfl rfl
  have b9:=b6.mod m9 (by simp;omega)
  have p9:=p6.modI m9 (by simp;omega)
  have M9:=M6.thenI m9 (.inl (by simp;omega))
  obtain ⟨s13,c13,m13,p13⟩:=zqb p9 hl.head
  have a13:=a9.mod m13 (by simp;omega)
  have b13:=b9.mod m13 (by simp;omega)
  have M13:=M9.then m13
  rw [zfX,if_neg h2]
  by_cases h1:t.kd=1
  ·rw [if_pos h1,zdt h1] at c13
   rw [if_pos h1] at p13
   rw [if_pos h1]
   have hl1:=hl.tail (by omega)
   obtain ⟨s,u,rfl⟩:=hl1.lin.ne
   obtain ⟨s16,e16,a16,m16,_⟩:=a13.sto (k:=0) (vs:=[.string (mkS t.tx)]) (row':=valRow ⟨t.tx,0,t.col⟩) rfl rfl
   have b16:=b13.mod m16 (by simp;omega)
   have p16:=p13.modI m16 (by simp;omega)
   have M16:=M13.thenI m16 (.inl (by simp;omega))
   obtain ⟨s20,c20,m20,p20⟩:=zjM p16 hl1.head [43]
   have c20':cc 92 [ptr b 0,.string ⟨#[43]⟩] s16=some (.bool (zaA s [43]),s20):=c20
   have a20:=a16.mod m20 (by simp;omega)
   have b20:=b16.mod m20 (by simp;omega)
   have M20:=M16.then m20
   simp only
   by_cases hp:zaA s [43]=true
   ·rw [hp] at c20'
    rw [if_pos hp] at p20
    rw [if_pos hp]
    have hl2:=hl1.tail (by have:=zbN hp;omega)
    obtain ⟨w,z,rfl⟩:=hl2.lin.ne
    obtain ⟨s22,c22,m22,p22⟩:=zjN p20 hl2.head
    have a22:=a20.mod m22 (by simp;omega)
    have b22:=b20.mod m22 (by simp;omega)
    have M22:=M20.then m22
    simp only
    by_cases hw:w.kd=2
    ·rw [if_pos hw,zdt hw] at c22
     rw [if_pos hw] at p22
     rw [if_pos hw]
     obtain ⟨s25,e25,a25,m25,_⟩:=a22.sto (k:=1) (vs:=[.int .i64 w.nm]) (row':=valRow ⟨t.tx,w.nm,t.col⟩) rfl rfl
     have b25:=b22.mod m25 (by simp;omega)
     obtain ⟨s27,f1,f2,f3,f4,_⟩:=za9 (n:=3) b25 rfl a25 rfl rfl
     refine ⟨s27,zbc _ st ?_,(M22.thenI m25 (.inl (by simp;omega))).thenI f4 (.inl (zlr _)),(p22.modI m25 (by simp;omega)).modI f4 hb⟩
     simp only [zbg,c1,zob,k4,e5,c6,zal,List.getElem?_toArray,zgs,zgz,zaa,zaf,e9,zcf,c13,zab,e16,znt,c20',zct,c22,e25,f1,f2,f3]
    ·rw [if_neg hw,zdf hw] at c22
     rw [if_neg hw] at p22
     rw [if_neg hw]
     obtain ⟨s25,e25,a25,m25,_⟩:=a22.sto (k:=1) (vs:=[.int .i64 0]) (row':=valRow ⟨t.tx,0,t.col⟩) rfl rfl
     have b25:=b22.mod m25 (by simp;omega)
     obtain ⟨s27,f1,f2,f3,f4,_⟩:=za9 (n:=3) b25 rfl a25 rfl rfl
     refine ⟨⟨t.tx,0,t.col⟩,s27,zbc _ st ?_,(M22.thenI m25 (.inl (by simp;omega))).thenI f4 (.inl (zlr _)),(p22.modI m25 (by simp;omega)).modI f4 hb⟩
     simp only [zbg,c1,zob,k4,e5,c6,zal,List.getElem?_toArray,zgs,zgz,zaa,zaf,e9,zcf,c13,zab,e16,znt,c20',zct,c22,e25,f1,f2,f3]
   ·rw [if_neg hp] at p20
    have hp':zaA s [43]=false:=Bool.eq_false_iff.2 hp
    rw [hp'] at c20'
    rw [if_neg hp]
    obtain ⟨s29,c29,m29,p29⟩:=zjM p20 hl1.head [45]
    have c29':cc 92 [ptr b 0,.string ⟨#[45]⟩] s20=some (.bool (zaA s [45]),s29):=c29
    have a29:=a20.mod m29 (by simp;omega)
    have b29:=b20.mod m29 (by simp;omega)
    have M29:=M20.then m29
    by_cases hm:zaA s [45]=true
    ·rw [hm] at c29'
     rw [if_pos hm] at p29
     rw [if_pos hm]
     have hl2:=hl1.tail (by have:=zbN hm;omega)
     obtain ⟨w,z,rfl⟩:=hl2.lin.ne
     obtain ⟨s31,c31,m31,p31⟩:=zjN p29 hl2.head
     have a31:=a29.mod m31 (by simp;omega)
     have b31:=b29.mod m31 (by simp;omega)
     have M31:=M29.then m31
     simp only
     by_cases hw:w.kd=2
     ·rw [if_pos hw,zdt hw] at c31
      rw [if_pos hw] at p31
      rw [if_pos hw]
      obtain ⟨s34,e34,a34,m34,_⟩:=a31.sto (k:=1) (vs:=[.int .i64 w.nm]) (row':=valRow ⟨t.tx,w.nm,t.col⟩) rfl rfl
      have b34:=b31.mod m34 (by simp;omega)
      have l34:s34.ld ((st.new (.cells Z3 0)).adv n).next 1=some (.int .i64 w.nm):=a34.ld
      obtain ⟨s37,e37,a37,m37,_⟩:=a34.sto (k:=1) (vs:=[.int .i64 (-w.nm)]) (row':=valRow ⟨t.tx, -w.nm,t.col⟩) rfl rfl
      have b37:=b34.mod m37 (by simp;omega)
      obtain ⟨s39,f1,f2,f3,f4,_⟩:=za9 (n:=3) b37 rfl a37 rfl rfl
      have hneg:=zqc hl2.tok.nm0 hl2.tok.nm1
      refine ⟨s39,zbc _ st ?_,((M31.thenI m34 (.inl (by simp;omega))).thenI m37 (.inl (by simp;omega))).thenI f4 (.inl (zlr _)),((p31.modI m34 (by simp;omega)).modI m37 (by simp;omega)).modI f4 hb⟩
      simp only [zbg,c1,zob,k4,e5,c6,zal,List.getElem?_toArray,zgs,zgz,zaa,zaf,e9,zcf,c13,zab,e16,znt,c20',c29',zct,c31,e34,l34,hneg,e37,f1,f2,f3]
     ·rw [if_neg hw,zdf hw] at c31
      rw [if_neg hw] at p31
      rw [if_neg hw]
      obtain ⟨s34,e34,a34,m34,_⟩:=a31.sto (k:=1) (vs:=[.int .i64 0]) (row':=valRow ⟨t.tx,0,t.col⟩) rfl rfl
      have b34:=b31.mod m34 (by simp;omega)
      have l34:s34.ld ((st.new (.cells Z3 0)).adv n).next 1=some (.int .i64 0):=a34.ld
      obtain ⟨s37,e37,a37,m37,_⟩:=a34.sto (k:=1) (vs:=[.int .i64 0]) (row':=valRow ⟨t.tx,0,t.col⟩) rfl rfl
      have b37:=b34.mod m37 (by simp;omega)
      obtain ⟨s39,f1,f2,f3,f4,_⟩:=za9 (n:=3) b37 rfl a37 rfl rfl
      have hneg:IntKind.wrap .i64 (0-0)=0:=by decide
      refine ⟨⟨t.tx,0,t.col⟩,s39,zbc _ st ?_,((M31.thenI m34 (.inl (by simp;omega))).thenI m37 (.inl (by simp;omega))).thenI f4 (.inl (zlr _)),((p31.modI m34 (by simp;omega)).modI m37 (by simp;omega)).modI f4 hb⟩
      simp only [zbg,c1,zob,k4,e5,c6,zal,List.getElem?_toArray,zgs,zgz,zaa,zaf,e9,zcf,c13,zab,e16,znt,c20',c29',zct,c31,e34,l34,hneg,e37,f1,f2,f3]
    ·rw [if_neg hm] at p29
     have hm':zaA s [45]=false:=Bool.eq_false_iff.2 hm
     rw [hm'] at c29'
     rw [if_neg hm]
     obtain ⟨s42,f1,f2,f3,f4,_⟩:=za9 (n:=3) b29 rfl a29 rfl rfl
     refine ⟨s42,zbc _ st ?_,M29.thenI f4 (.inl (zlr _)),p29.modI f4 hb⟩
     simp only [zbg,c1,zob,k4,e5,c6,zal,List.getElem?_toArray,zgs,zgz,zaa,zaf,e9,zcf,c13,zab,e16,znt,c20',c29',f1,f2,f3]
  ·rw [if_neg h1,zdf h1] at c13
   rw [if_neg h1] at p13
   rw [if_neg h1]
   obtain ⟨s16,e16,a16,m16,_⟩:=a13.sto (k:=0) (vs:=[.string (mkS [])]) (row':=valRow ⟨[],0,t.col⟩) rfl rfl
   have b16:=b13.mod m16 (by simp;omega)
   obtain ⟨s18,f1,f2,f3,f4,_⟩:=za9 (n:=3) b16 rfl a16 rfl rfl
   refine ⟨⟨[],0,t.col⟩,s18,zbc _ st ?_,(M13.thenI m16 (.inl (by simp;omega))).thenI f4 (.inl (zlr _)),(p13.modI m16 (by simp;omega)).modI f4 hb⟩
   simp only [zbg,c1,zob,k4,e5,c6,zal,List.getElem?_toArray,zgs,zgz,zaa,zaf,e9,zcf,c13,zab,e16,znf,zct,f1,f2,f3]
theorem zkK (p:Pr):(prRow p).length=5:=rfl
theorem zqW (p:Val):(valRow p).length=3:=rfl
theorem zsc [Sym] (p:Pr) (f:List UInt8) (q:Nat) (st:SS) (hq:st.mem.get q=some (.cells [.string (mkS f)] 0)) (hlt:q<st.next):∃ n,st.next≤n∧cc 113 [.agg (prRow p).toArray,ptr q 0] st=some (.bool (decide (p.fd=f)),st.adv n):=by
 refine ⟨st.next+1,by omega,zsb _ _ st ?_⟩
 have l0:((st.ro st.next).new (.cells (prRow p) 0)).ld st.next 0=some (.string (mkS p.fd)):=by
  have hm:((st.ro st.next).new (.cells (prRow p) 0)).mem.get st.next=some (.cells (prRow p) 0):=SS.new_get (st:=st.ro st.next)
  rw [SS.ld_cells hm];rfl
 have l1:((st.ro st.next).new (.cells (prRow p) 0)).ld q 0=some (.string (mkS f)):=by
  rw [SS.ld_cells (c:=[.string (mkS f)]) (z:=0) (by rw [SS.new_old (by simp;omega)];exact hq)];rfl
 simp only [zr8,zaJ,SS.ro_next,l0,zob,zab,zad,l1,zec]
 rfl
theorem zsd [Sym] (ps:List Pr) (hsz:ps.length≤1099511627776) (f:List UInt8) (q:Nat) (v:Value) (st0:SS) (hv:Rd st0 v (rowsF prRow ps) 5 ps.length) (hq:st0.mem.get q=some (.cells [.string (mkS f)] 0)) (hlt:q<st0.next):
  ∀ (k j:Nat) (st:SS),ps.length=k+j→Ext st0 st→∃ e vs st',zf0 2 [v,.func (.func 113) #[] #[ptr q 0],.int .i64 ps.length,.int .i64 j] st=some (e,vs,st')∧Ext st0 st'∧
   ((e=0∧vs=[]∧f∉(ps.drop j).map (·.fd))∨(e=1∧f∈(ps.drop j).map (·.fd)∧∃ m:Nat,vs=[.int .i64 m])):=by
 intro k
 induction k with
 | zero=>
   intro j st hk he
   refine ⟨0,[],st,zgO v q _ _ st ?_,he,.inl ⟨rfl,rfl,?_⟩⟩
   ·have:¬ (j:Int)<(ps.length:Int):=by omega
    simp only [zha,zdf this,zcf]
   ·rw [List.drop_of_length_le (by omega)];simp
 | succ k ih=>
   intro j st hk he
   obtain ⟨p,hp⟩:∃ p,ps[j]?=some p:=⟨_,zge (by omega)⟩
   have hjl:(j:Int)<(ps.length:Int):=by omega
   obtain ⟨x,b1,b2,_⟩:=(hv.ext he).load (j:=(j:Int)) (by omega) hjl (zbv zkK ps j p hp) rfl
   obtain ⟨n,hn,c1⟩:=zsc p f q st (he.get hlt hq) (zll hlt he.next)
   have b2':st.ldN x.1 x.2 5=some (.agg (prRow p).toArray):=b2
   have hd:=drop_cons hp
   have hw:=za6 (i:=j) (by omega)
   by_cases hf:p.fd=f
   ·refine ⟨1,[.int .i64 j],st.adv n,zgO v q _ _ st ?_,he.adv (by have:=he.next;omega),.inr ⟨rfl,?_,j,rfl⟩⟩
    ·rw [zdt hf] at c1
     simp only [zha,zdt hjl,zct,b1,zob,b2',c1,zaf]
    ·rw [hd];simp [hf]
   ·obtain ⟨e,vs,st',d1,d2,d3⟩:=ih (j+1) (st.adv n) (by omega) (he.adv (by have:=he.next;omega))
    rw [zdf hf] at c1
    refine ⟨e,vs,st',zgO v q _ _ st ?_,d2,?_⟩
    ·simp only [zha,zdt hjl,zct,b1,zob,b2',c1,zaf,zcf,hw]
     exact d1
    ·rw [hd]
     rcases d3 with ⟨e1,e2,e3⟩ | ⟨e1,e2,e3⟩
     ·exact .inl ⟨e1,e2,by simp only [List.map_cons,List.mem_cons,not_or];exact ⟨fun x=>hf x.symm,e3⟩⟩
     ·exact .inr ⟨e1,by simp only [List.map_cons,List.mem_cons];exact .inr e2,e3⟩
theorem zuu [Sym] (ps:List Pr) (hsz:ps.length≤1099511627776) (f:List UInt8) (q:Nat) (v:Value) (st:SS) (hv:Rd st v (rowsF prRow ps) 5 ps.length) (hq:st.mem.get q=some (.cells [.string (mkS f)] 0)) (hlt:q<st.next):
  ∃ n,st.next≤n∧cc 112 [v,.func (.func 113) #[] #[ptr q 0]] st=some (.bool (decide (f∈ps.map (·.fd))),st.adv n):=by
 obtain ⟨e,vs,st',d1,d2,d3⟩:=zsd ps hsz f q v ((st.ro st.next).ro (st.ro st.next).next) hv hq hlt ps.length 0 ((st.ro st.next).ro (st.ro st.next).next) (by omega) (.refl _)
 have d1':zf0 2 [v,.func (.func 113) #[] #[ptr q 0],.int .i64 ps.length,.int .i64 0] ((st.ro st.next).ro (st.ro st.next).next)=some (e,vs,st'):=d1
 have hlen:(lenV v).bind (asI .i64)=some (ps.length:Int):=by rw [hv.len];rfl
 rw [List.drop_zero] at d3
 have hnx:=d2.next
 simp at hnx
 refine ⟨st'.next,hnx,zpM _ _ st ?_⟩
 rcases d3 with ⟨rfl,rfl,e3⟩ | ⟨rfl,e2,m,rfl⟩
 ·have c:cc 133 [v,.func (.func 113) #[] #[ptr q 0]] (st.ro st.next)=some (.int .i64 (-1),(st.ro st.next).adv st'.next):=by
   refine zmZ _ _ _ ?_
   have hb0:Nat.beq 0 0=true:=rfl
   simp only [znz,hlen,zob,d1',hb0,zct]
  have h0:¬ (0:Int)≤ -1:=by omega
  rw [zdf e3]
  simp only [zl4,c,zob,zaa,zdf h0]
  rfl
 ·have c:cc 133 [v,.func (.func 113) #[] #[ptr q 0]] (st.ro st.next)=some (.int .i64 m,(st.ro st.next).adv st'.next):=by
   refine zmZ _ _ _ ?_
   have hb0:Nat.beq 1 0=false:=rfl
   simp only [znz,hlen,zob,d1',hb0,zcf,zgz,zaa]
  have h0:(0:Int)≤(m:Int):=by omega
  rw [zdt e2]
  simp only [zl4,c,zob,zaa,zdt h0]
  rfl
end Go.Proofs.YtifploedaacedaaGreatDoorE
namespace Go.Proofs.YtifploedaacedaaGreatDoorE
open Go Go.E Go.Proofs
theorem PAt.keepB {S:List Nat} {st st':SS} {b i B:Nat} {v:Value} {us:List (Nat×Tok)} (h:PAt st b v us i) (k:Keep B S st st') (hB:b<B) (hS:∀ j,j∈S→b<j):PAt st' b v us i:=by
 refine ⟨h.blk.keepB k hB (fun hm=>by have:=hS b hm;omega),?_,h.vb,h.sz,k.ll h.ll⟩
 obtain ⟨h1,h2⟩:=h.rd
 refine ⟨h1,h2.imp id ?_⟩
 rintro ⟨j,cap,e,⟨z',hm⟩,hj⟩
 have hjb:=h.vb j 0 _ cap e
 exact ⟨j,cap,e,⟨z',(k.keep j (by omega) (fun hx=>by have:=hS j hx;omega)).trans hm⟩,zll hj k.next⟩
def PairR (B b lb:Nat) (w0 w1 w2 w3 pv v:Value) (us:List (Nat×Tok)) (i:Nat) (ps:List Pr) (st:SS) (r:Option (Value×SS)):Except Nat (Pr×Nat)→Prop
 | .ok (p,n)=>∃ st' pv',r=some (.bool true,st')∧Keep B [b,lb] st st'∧PAt st' b v us (i+n)∧At st' lb [w0,w1,w2,w3,pv']∧Own B st' pv' (rowsF prRow (ps++[p])) 5 (ps++[p]).length
 | .error o=>∃ st',r=some (.bool false,st')∧Keep B [b,lb] st st'∧PAt st' b v us (i+o)∧At st' lb [w0,w1,w2,w3,pv]∧Own B st' pv (rowsF prRow ps) 5 ps.length
theorem zuv [Sym] {st:SS} {b i ln lb B:Nat} {v w0 w1 w2 w3 pv:Value} {us:List (Nat×Tok)} {l:List Tok} {ps:List Pr} (h:PAt st b v us i) (hl:LineAt us i ln l)
  (ha:At st lb [w0,w1,w2,w3,pv]) (hbl:b<lb) (hlB:lb<B) (hB:B≤st.next) (hps:ps.length≤1099511627776/8) (ho:Own B st pv (rowsF prRow ps) 5 ps.length):
  PairR B b lb w0 w1 w2 w3 pv v us i ps st (cc 95 [ptr b 0,ptr lb 0] st) (pairT (ps.map (·.fd)) l):=by
 obtain ⟨t,r,rfl⟩:=hl.lin.ne
 have hisz:=LineAt.sz h hl
 have hb:=h.blk.lt
 have hlim:st.lim≤B:=by have:=ha.2.2;omega
 obtain ⟨n1,hn1,c1⟩:=zcJ h.has hl.head
 obtain ⟨s4,e4,a4,x4,_⟩:=ziK (st:=st.adv n1) (zlt h.ll hn1) (r:=[.string ⟨#[]⟩,.int .i64 0,.string ⟨#[]⟩,.int .i64 0,.int .i64 0]) (row:=prRow ⟨[],t.col,⟨[],0,0⟩⟩) rfl rfl
 have x04:Ext st s4:=(Ext.advR st hn1).trans x4
 obtain ⟨n2,hn2,c2⟩:=zcJ (h.ext x04).has hl.head
 obtain ⟨s8,e8,a8,x8,_⟩:=ziK (st:=s4.adv n2) (zlt (x04.ll h.ll) hn2) (r:=[.string ⟨#[]⟩]) (row:=[.string (mkS t.tx)]) rfl rfl
 have x08:Ext st s8:=x04.trans ((Ext.advR s4 hn2).trans x8)
 have a48:=(a4.adv hn2).ext x8
 obtain ⟨n3,hn3,c3⟩:=zcJ (h.ext x08).has hl.head
 have x03:Ext st (s8.adv n3):=x08.trans (.advR s8 hn3)
 have p3:=h.ext x03
 have la:=ha.ext x03
 have l4:(s8.adv n3).ld lb 4=some pv:=la.ld
 have k0:=(zcW (ln:=ln) (t:=t)).1
 have k1:=(zcW (ln:=ln) (t:=t)).2.1
 have k4:=(zcW (ln:=ln) (t:=t)).2.2.2
 have e4':((st.adv n1).new (.cells [.string ⟨#[]⟩,.int .i64 0,.string ⟨#[]⟩,.int .i64 0,.int .i64 0] 0)).st (st.adv n1).next 0 [.string ⟨#[]⟩,.int .i64 t.col,.string ⟨#[]⟩,.int .i64 0,.int .i64 0]=some s4:=e4
 rw [zg9]
 by_cases h1:t.kd=1
 case neg=>
  have h1':¬ (t.kd:Int)=1:=by omega
  rw [if_neg (fun x=>h1 x.1)]
  refine ⟨s8.adv n3,zbZ _ _ st ?_,x03.keepB hB,p3,la,ho.ext x03⟩
  simp only [zbY,c1,zob,k4,e4',c2,k1,e8,c3,k0,zdf h1',znf,zct]
 have h1':(t.kd:Int)=1:=by omega
 obtain ⟨m,hm,c5⟩:=zuu ps (by omega) t.tx (s4.adv n2).next pv (s8.adv n3) (ho.ext x03).rd (a8.adv hn3).mem (a8.adv hn3).lt
 have x05:Ext st ((s8.adv n3).adv m):=x03.trans (.advR _ hm)
 by_cases hk:t.tx∈ps.map (·.fd)
 ·rw [if_neg (fun x=>x.2 hk)]
  rw [zdt hk] at c5
  refine ⟨(s8.adv n3).adv m,zbZ _ _ st ?_,x05.keepB hB,h.ext x05,ha.ext x05,ho.ext x05⟩
  simp only [zbY,c1,zob,k4,e4',c2,k1,e8,c3,k0,zdt h1',znt,zcf,zbM,zad,Nat.zero_add,l4,c5,zaf,zct]
 rw [if_pos ⟨h1,hk⟩]
 rw [zdf hk] at c5
 have hl1:=hl.tail (by omega)
 obtain ⟨e,u,rfl⟩:=hl1.lin.ne
 have q8:=(a8.adv hn3).adv hm
 have l16:((s8.adv n3).adv m).ld (s4.adv n2).next 0=some (.string (mkS t.tx)):=q8.ld
 obtain ⟨s17,e17,a17,m17,_⟩:=((a48.adv hn3).adv hm).sto (k:=0) (vs:=[.string (mkS t.tx)]) (row':=prRow ⟨t.tx,t.col,⟨[],0,0⟩⟩) rfl rfl
 have hj1:B≤(st.adv n1).next:=zlt hB hn1
 have p17:=(h.ext x05).modI m17 (by omega)
 have la17:=(ha.ext x05).mod m17 (by simp;omega)
 have o17:=(ho.ext x05)
 have K17:Keep B [b,lb] st s17:=(x05.keepB hB).thenI m17 (zlt hB x05.next) (.inl hj1)
 have o17:Own B s17 pv (rowsF prRow ps) 5 ps.length:=by
  refine (ho.ext x05).mod m17 (fun j k l' q hv hm'=>?_)
  have hj:j=(st.adv n1).next:=by simpa using hm'
  obtain ⟨_,⟨ev,_⟩ | ⟨i',ev,_,_,_,hi'⟩⟩:=ho
  ·rw [ev] at hv;cases hv
  ·rw [ev] at hv;cases hv
   have:st.next≤(st.adv n1).next:=hn1
   omega
 have l17:s17.ld b 1=some (.int .i64 i):=p17.blk.ld
 obtain ⟨s24,e24,p24,m24,_⟩:=p17.move (i+1)
 have la24:=la17.mod m24 (by simp;omega)
 have a24:=a17.mod m24 (by simp;omega)
 have nx17:B≤s17.next:=zlt hB K17.next
 have K24:=K17.thenI m24 nx17 (.inr (by simp))
 have o24:=o17.modLt m24 (by simp;omega)
 have hw:=za6 hisz
 obtain ⟨s25,c25,m25,p25⟩:=zjM p24 hl1.head [61]
 have c25':cc 92 [ptr b 0,.string ⟨#[61]⟩] s24=some (.bool (zaA e [61]),s25):=c25
 have la25:=la24.mod m25 (by simp;omega)
 have a25:=a24.mod m25 (by simp;omega)
 have nx24:B≤s24.next:=zlt hB K24.next
 have K25:=K24.thenI m25 nx24 (.inr (by simp))
 have o25:=o24.modLt m25 (by simp;omega)
 simp only
 by_cases he:zaA e [61]=true
 case neg=>
  have he':zaA e [61]=false:=Bool.eq_false_iff.2 he
  rw [he'] at c25'
  rw [if_neg he] at p25
  rw [if_neg he]
  refine ⟨s25,zbZ _ _ st ?_,K25,p25,la25,o25⟩
  simp only [zbY,c1,zob,k4,e4',c2,k1,e8,c3,k0,zdt h1',znt,zcf,zbM,zad,Nat.zero_add,l4,c5,zaf,l16,zab,e17,l17,zaa,hw,e24,c25',znf,zct]
 rw [he] at c25'
 rw [if_pos he] at p25
 rw [if_pos he]
 have hl2:=hl1.tail (by have:=zbN he;omega)
 have nx25:B≤s25.next:=zlt hB K25.next
 have hval:=zpc p25 hl2
 cases hx:zdB u with
 | error o=>
   rw [hx] at hval
   obtain ⟨w,s27,c27,m27,p27⟩:=hval
   have la27:=la25.mod m27 (by simp;omega)
   have a27:=a25.mod m27 (by simp;omega)
   have K27:=K25.thenI m27 nx25 (.inr (by simp))
   have o27:=o25.modLt m27 (by simp;omega)
   obtain ⟨s30,e30,a30,m30,_⟩:=a27.stV (k:=2) (n:=3) (zaJ (valRow w)) rfl rfl (row':=prRow ⟨t.tx,t.col,w⟩) rfl
   have la30:=la27.mod m30 (by simp;omega)
   have nx27:B≤s27.next:=zlt hB K27.next
   have K30:=K27.thenI m30 nx27 (.inl hj1)
   have p30:=p27.modI m30 (by omega)
   have o30:Own B s30 pv (rowsF prRow ps) 5 ps.length:=by
    refine o27.mod m30 (fun j k l' q hv hm'=>?_)
    have hj:j=(st.adv n1).next:=by simpa using hm'
    obtain ⟨_,⟨ev,_⟩ | ⟨i',ev,_,_,_,hi'⟩⟩:=ho
    ·rw [ev] at hv;cases hv
    ·rw [ev] at hv;cases hv
     have:st.next≤(st.adv n1).next:=hn1
     omega
   refine ⟨s30,zbZ _ _ st ?_,K30,by have e':i+1+1+o=i+(2+o):=by omega
                                    rw [← e'];exact p30,la30,o30⟩
   simp only [zbY,c1,zob,k4,e4',c2,k1,e8,c3,k0,zdt h1',znt,zcf,zbM,zad,Nat.zero_add,l4,c5,zaf,l16,zab,e17,l17,zaa,hw,e24,c25',c27,zal,List.getElem?_toArray,zgs,zgz,e30,znf,zct]
 | ok y=>
   obtain ⟨x,n⟩:=y
   rw [hx] at hval
   obtain ⟨s27,c27,m27,p27⟩:=hval
   have la27:=la25.mod m27 (by simp;omega)
   have a27:=a25.mod m27 (by simp;omega)
   have K27:=K25.thenI m27 nx25 (.inr (by simp))
   have o27:=o25.modLt m27 (by simp;omega)
   obtain ⟨s30,e30,a30,m30,_⟩:=a27.stV (k:=2) (n:=3) (zaJ (valRow x)) rfl rfl (row':=prRow ⟨t.tx,t.col,x⟩) rfl
   have la30:=la27.mod m30 (by simp;omega)
   have nx27:B≤s27.next:=zlt hB K27.next
   have K30:=K27.thenI m30 nx27 (.inl hj1)
   have p30:=p27.modI m30 (by omega)
   have o30:Own B s30 pv (rowsF prRow ps) 5 ps.length:=by
    refine o27.mod m30 (fun j k l' q hv hm'=>?_)
    have hj:j=(st.adv n1).next:=by simpa using hm'
    obtain ⟨_,⟨ev,_⟩ | ⟨i',ev,_,_,_,hi'⟩⟩:=ho
    ·rw [ev] at hv;cases hv
    ·rw [ev] at hv;cases hv
     have:st.next≤(st.adv n1).next:=hn1
     omega
   have l33:s30.ld lb 4=some pv:=la30.ld
   have l34:s30.ldN (st.adv n1).next 0 5=some (.agg (prRow ⟨t.tx,t.col,x⟩).toArray):=a30.ldN rfl
   have hc35:zaE (.agg (prRow ⟨t.tx,t.col,x⟩).toArray) 5=some (prRow ⟨t.tx,t.col,x⟩):=zg8 rfl
   have nx30:B≤s30.next:=zlt hB K30.next
   obtain ⟨pv',s37,g1,g2,g3⟩:=o30.pushK nx30 (by rw [K30.lim];exact hlim) (row:=prRow ⟨t.tx,t.col,x⟩) rfl (by omega) rfl (bt:=56) (by omega) (by omega)
   have la37:=la30.keepB (g3 []) hlB (by simp)
   have p37:=p30.keepB (g3 []) (by omega) (by simp)
   have K37:=K30.then (g3 _)
   obtain ⟨s40,e40,a40,m40,_⟩:=la37.stV (k:=4) (n:=1) g2.cell.1 rfl (by simp [g2.cell.2]) (row':=[w0,w1,w2,w3,pv']) rfl
   have nx37:B≤s37.next:=zlt hB K37.next
   have K40:=K37.thenI m40 nx37 (.inr (by simp))
   have p40:=p37.modI m40 hbl
   have o40:=g2.modLt m40 (by simp;omega)
   refine ⟨s40,pv',zbZ _ _ st ?_,K40,by have e':i+1+1+n=i+(2+n):=by omega
                                        rw [← e'];exact p40,a40,?_⟩
   ·simp only [zbY,c1,zob,k4,e4',c2,k1,e8,c3,k0,zdt h1',znt,zcf,zbM,zad,Nat.zero_add,l4,c5,zaf,l16,zab,e17,l17,zaa,hw,e24,c25',c27,zal,List.getElem?_toArray,zgs,zgz,e30,l33,l34,hc35,List.append_nil,g1,e40]
   ·rw [zbS,zcV,List.length_append];exact o40
end Go.Proofs.YtifploedaacedaaGreatDoorE
namespace Go.Proofs.YtifploedaacedaaGreatDoorE
open Go Go.E Go.Proofs
theorem LineAt.go {us:List (Nat×Tok)} {i ln n:Nat} {l:List Tok} (h:LineAt us i ln l) (hn:Lin (l.drop n)):LineAt us (i+n) ln (l.drop n):=by
 have hlt:n<l.length:=by
  obtain ⟨t,r,e⟩:=hn.ne
  have:=congrArg List.length e
  simp at this
  omega
 refine ⟨?_,hn,fun t ht=>h.ok t (List.mem_of_mem_drop ht)⟩
 obtain ⟨rest,hr⟩:=h.drop
 refine ⟨rest,?_⟩
 rw [← List.drop_drop,hr,List.drop_append_of_le_length (by simp;omega),List.map_drop]
theorem ziW {S:List Nat} {B:Nat} {st st':SS} {pv:Value} {c:List Value} {z n j:Nat} (ho:Own B st pv c z n) (m:Mod [j] st st') (hj:j<B∨st.next≤j):Own B st' pv c z n:=by
 refine ho.mod m (fun k k' l' q hv hm'=>?_)
 have hk:k=j:=by simpa using hm'
 obtain ⟨_,⟨ev,_⟩ | ⟨i',ev,_,_,hbi,hi'⟩⟩:=ho
 ·rw [ev] at hv;cases hv
 ·rw [ev] at hv;cases hv;omega
def zpd (B b lb j2:Nat) (w0 w1 w2 w3 v:Value) (us:List (Nat×Tok)) (i e:Nat) (ps:List Pr) (st:SS) (r:Option (Nat×List Value×SS)):Except Nat (List Pr)→Prop
 | .ok qs=>∃ st' pv',r=some (0,[ptr j2 0,ptr lb 0],st')∧Keep B [b,lb] st st'∧PAt st' b v us e∧At st' lb [w0,w1,w2,w3,pv']∧Own B st' pv' (rowsF prRow (ps++qs)) 5 (ps++qs).length
 | .error o=>∃ st' row,r=some (1,[ptr j2 0,.bool false],st')∧Keep B [b,lb,j2] st st'∧PAt st' b v us (i+o)∧At st' j2 row∧row.length=5∧row.all one=true
theorem zqX [Sym] {ln lb B b j2:Nat} {v w0 w1 w2 w3:Value} {us:List (Nat×Tok)} (hbj:b<j2) (hjl:j2<lb) (hlB:lb<B) (hw:one w0=true∧one w1=true∧one w2=true∧one w3=true):∀ (k i:Nat) (l:List Tok) (ps:List Pr) (pv:Value) (st:SS),l.length≤k→ps.length+k≤1099511627776/8→PAt st b v us i→LineAt us i ln l→
  At st lb [w0,w1,w2,w3,pv]→(∃ r2,At st j2 r2∧r2.length=5)→B≤st.next→Own B st pv (rowsF prRow ps) 5 ps.length→
  zpd B b lb j2 w0 w1 w2 w3 v us i (i+(l.length-1)) ps st (zaH 17 [ptr b 0,ptr j2 0,ptr lb 0] st) (zba k (ps.map (·.fd)) l):=by
 intro k
 induction k with
 | zero=>
   intro i l ps pv st hk _ h hl
   obtain ⟨t,r,rfl⟩:=hl.lin.ne
   simp at hk
 | succ k ih=>
   intro i l ps pv st hk hps h hl ha hj2 hB ho
   obtain ⟨t,r,rfl⟩:=hl.lin.ne
   obtain ⟨n1,hn1,c1⟩:=zcJ h.has hl.head
   have k0:=(zcW (ln:=ln) (t:=t)).1
   have x1:Ext st (st.adv n1):=.advR st hn1
   unfold zba
   by_cases h0:t.kd=0
   ·rw [if_pos h0]
    have hr:=hl.lin.last h0
    subst hr
    have h0':(t.kd:Int)=0:=by omega
    refine ⟨st.adv n1,pv,zcQ _ _ _ st ?_,x1.keepB hB,by simpa using h.ext x1,ha.ext x1,by simpa using ho.ext x1⟩
    simp only [zcv,c1,zob,k0,zdt h0',znt,zcf]
   ·rw [if_neg h0]
    have h0':¬ (t.kd:Int)=0:=by omega
    have hp:=zuv (h.ext x1) hl (ha.ext x1) (by omega) hlB (zlt hB hn1) (by omega) (ho.ext x1)
    have hlin:=zh5 (seen:=ps.map (·.fd)) hl.lin
    cases hx:pairT (ps.map (·.fd)) (t::r) with
    | error o=>
      rw [hx] at hp
      obtain ⟨s3,c3,K3,p3,a3,o3⟩:=hp
      have K3':Keep B [b,lb] st s3:=(x1.keepB hB).then K3
      obtain ⟨r2,a2,l2⟩:=hj2
      have a23:=a2.keepB K3' (by omega) (by simp;omega)
      obtain ⟨s8,f1,f2,f3,f4,f5⟩:=za9 (n:=5) a23 l2 a3 rfl (by simp [hw,o3.cell.2])
      have nx3:B≤s3.next:=zlt hB K3'.next
      refine ⟨s8,[w0,w1,w2,w3,pv],zcQ _ _ _ st ?_,(K3'.mono (zlr _) (fun j hj _=>by simp at hj ⊢;omega)).thenI f4 nx3 (.inr (by simp)),p3.modI f4 hbj,f5,rfl,by simp [hw,o3.cell.2]⟩
      simp only [zcv,c1,zob,k0,zdf h0',znf,zct,c3,zaf,zad,f1,f2]
    | ok y=>
      obtain ⟨p,n⟩:=y
      rw [hx] at hp hlin
      obtain ⟨s3,pv',c3,K3,p3,a3,o3⟩:=hp
      simp only at hlin
      have K3':Keep B [b,lb] st s3:=(x1.keepB hB).then K3
      have hnl:n<(t::r).length:=by
       obtain ⟨t',r',e⟩:=hlin.1.ne
       have:=congrArg List.length e
       simp at this ⊢
       omega
      have hj23:∃ r2,At s3 j2 r2∧r2.length=5:=by
       obtain ⟨r2,a2,l2⟩:=hj2
       exact ⟨r2,a2.keepB K3' (by omega) (by simp;omega),l2⟩
      have next:=ih (i+n) ((t::r).drop n) (ps++[p]) pv' s3 (by rw [List.length_drop];omega) (by simp;omega) p3 (hl.go hlin.1) a3 hj23 (zlt hB K3'.next) o3
      have hend:i+n+(((t::r).drop n).length-1)=i+((t::r).length-1):=by rw [List.length_drop];omega
      rw [hend,List.map_append] at next
      have step:∀ y,zaH 17 [ptr b 0,ptr j2 0,ptr lb 0] s3=some y→zaH 17 [ptr b 0,ptr j2 0,ptr lb 0] st=some y:=fun y hy=>by
       refine zcQ _ _ _ st ?_
       simp only [zcv,c1,zob,k0,zdf h0',znf,zct,c3,zaf,znt,zcf]
       exact hy
      simp only
      have next':zpd B b lb j2 w0 w1 w2 w3 v us (i+n) (i+((t::r).length-1)) (ps++[p]) s3 (zaH 17 [ptr b 0,ptr j2 0,ptr lb 0] s3) (zba k (ps.map (·.fd)++[p.fd]) ((t::r).drop n)):=next
      cases hz:zba k (ps.map (·.fd)++[p.fd]) ((t::r).drop n) with
      | error o=>
        rw [hz] at next'
        obtain ⟨st',row,d1,d2,d3,d4,d5,d6⟩:=next'
        exact ⟨st',row,step _ d1,(K3'.mono (zlr _) (fun j hj _=>by simp at hj ⊢;omega)).then d2,by rw [Nat.add_assoc] at d3;exact d3,d4,d5,d6⟩
      | ok qs=>
        rw [hz] at next'
        obtain ⟨st',pv2,d1,d2,d3,d4,d5⟩:=next'
        exact ⟨st',pv2,step _ d1,K3'.then d2,d3,d4,by simpa using d5⟩
def ArgsR (B b lb j2:Nat) (w0 w1 w2 w4 v:Value) (us:List (Nat×Tok)) (i e:Nat) (vs:List Val) (st:SS) (r:Option (Nat×List Value×SS)):Except Nat (List Val)→Prop
 | .ok qs=>∃ st' av',r=some (0,[ptr j2 0,ptr lb 0],st')∧Keep B [b,lb] st st'∧PAt st' b v us e∧At st' lb [w0,w1,w2,av',w4]∧Own B st' av' (rowsF valRow (vs++qs)) 3 (vs++qs).length
 | .error o=>∃ st' row,r=some (1,[ptr j2 0,.bool false],st')∧Keep B [b,lb,j2] st st'∧PAt st' b v us (i+o)∧At st' j2 row∧row.length=5∧row.all one=true
theorem zse [Sym] {ln lb B b j2:Nat} {v w0 w1 w2 w4:Value} {us:List (Nat×Tok)} (hbj:b<j2) (hjl:j2<lb) (hlB:lb<B) (hw:one w0=true∧one w1=true∧one w2=true∧one w4=true):∀ (k i:Nat) (l:List Tok) (vs:List Val) (av:Value) (st:SS),l.length≤k→vs.length+k≤1099511627776/8→PAt st b v us i→LineAt us i ln l→
  At st lb [w0,w1,w2,av,w4]→(∃ r2,At st j2 r2∧r2.length=5)→B≤st.next→Own B st av (rowsF valRow vs) 3 vs.length→
  ArgsR B b lb j2 w0 w1 w2 w4 v us i (i+(l.length-1)) vs st (zaH 11 [ptr b 0,ptr j2 0,ptr lb 0] st) (zcO k l):=by
 intro k
 induction k with
 | zero=>
   intro i l vs av st hk _ h hl
   obtain ⟨t,r,rfl⟩:=hl.lin.ne
   simp at hk
 | succ k ih=>
   intro i l vs av st hk hvs h hl ha hj2 hB ho
   obtain ⟨t,r,rfl⟩:=hl.lin.ne
   obtain ⟨n1,hn1,c1⟩:=zcJ h.has hl.head
   have k0:=(zcW (ln:=ln) (t:=t)).1
   have x1:Ext st (st.adv n1):=.advR st hn1
   have hlim:st.lim≤B:=by have:=ha.2.2;omega
   unfold zcO
   by_cases h0:t.kd=0
   ·rw [if_pos h0]
    have hr:=hl.lin.last h0
    subst hr
    have h0':(t.kd:Int)=0:=by omega
    refine ⟨st.adv n1,av,zcP _ _ _ st ?_,x1.keepB hB,by simpa using h.ext x1,ha.ext x1,by simpa using ho.ext x1⟩
    simp only [zcu,c1,zob,k0,zdt h0',znt,zcf]
   ·rw [if_neg h0]
    have h0':¬ (t.kd:Int)=0:=by omega
    have hp:=zpc (h.ext x1) hl
    have hlin:=zh4 hl.lin
    have nx1:B≤(st.adv n1).next:=zlt hB hn1
    cases hx:zdB (t::r) with
    | error o=>
      rw [hx] at hp
      obtain ⟨w,s3,c3,m3,p3⟩:=hp
      have K3:Keep B [b,lb] st s3:=(x1.keepB hB).thenI m3 nx1 (.inr (by simp))
      have nx3:B≤s3.next:=zlt hB K3.next
      obtain ⟨s7,e7,a7,x7,_⟩:=zaQ (st:=s3) p3.ll (r:=Z3) (zaJ (valRow w)) (n:=3) rfl rfl rfl
      have K7:=K3.thenX x7 nx3
      have nx7:B≤s7.next:=zlt hB K7.next
      obtain ⟨r2,a2,l2⟩:=hj2
      have a27:=a2.keepB K7 (by omega) (by simp;omega)
      have la7:At s7 lb [w0,w1,w2,av,w4]:=(((ha.ext x1).mod m3 (by simp;omega))).ext x7
      have o7:=((ho.ext x1).modLt m3 (by simp;omega)).ext x7
      obtain ⟨s8,f1,f2,f3,f4,f5⟩:=za9 (n:=5) a27 l2 la7 rfl (by simp [hw,o7.cell.2])
      refine ⟨s8,[w0,w1,w2,av,w4],zcP _ _ _ st ?_,(K7.mono (zlr _) (fun j hj _=>by simp at hj ⊢;omega)).thenI f4 nx7 (.inr (by simp)),(p3.ext x7).modI f4 hbj,f5,rfl,by simp [hw,o7.cell.2]⟩
      simp only [zcu,c1,zob,k0,zdf h0',znf,zct,c3,zal,List.getElem?_toArray,zgs,zgz,zaf,e7,zad,f1,f2]
    | ok y=>
      obtain ⟨x,n⟩:=y
      rw [hx] at hp hlin
      obtain ⟨s3,c3,m3,p3⟩:=hp
      simp only at hlin
      have K3:Keep B [b,lb] st s3:=(x1.keepB hB).thenI m3 nx1 (.inr (by simp))
      have nx3:B≤s3.next:=zlt hB K3.next
      obtain ⟨s7,e7,a7,x7,_⟩:=zaQ (st:=s3) p3.ll (r:=Z3) (zaJ (valRow x)) (n:=3) rfl rfl rfl
      have K7:=K3.thenX x7 nx3
      have nx7:B≤s7.next:=zlt hB K7.next
      have la7:At s7 lb [w0,w1,w2,av,w4]:=(((ha.ext x1).mod m3 (by simp;omega))).ext x7
      have o7:=((ho.ext x1).modLt m3 (by simp;omega)).ext x7
      have l13:s7.ld lb 3=some av:=la7.ld
      have l14:s7.ldN s3.next 0 3=some (.agg (valRow x).toArray):=a7.ldN rfl
      have hc15:zaE (.agg (valRow x).toArray) 3=some (valRow x):=zg8 rfl
      obtain ⟨av',s17,g1,g2,g3⟩:=o7.pushK nx7 (by rw [K7.lim];exact hlim) (row:=valRow x) rfl (by omega) rfl (bt:=32) (by omega) (by omega)
      have la17:=la7.keepB (g3 []) hlB (by simp)
      have p17:=(p3.ext x7).keepB (g3 []) (by omega) (by simp)
      have K17:=K7.then (g3 _)
      obtain ⟨s19,e19,a19,m19,_⟩:=la17.stV (k:=3) (n:=1) g2.cell.1 rfl (by simp [g2.cell.2]) (row':=[w0,w1,w2,av',w4]) rfl
      have nx17:B≤s17.next:=zlt hB K17.next
      have K19:=K17.thenI m19 nx17 (.inr (by simp))
      have p19:=p17.modI m19 (by omega)
      have o19:=g2.modLt m19 (by simp;omega)
      have o19':Own B s19 av' (rowsF valRow (vs++[x])) 3 (vs++[x]).length:=by rw [zbS,zcV,List.length_append];exact o19
      have hnl:n<(t::r).length:=by
       obtain ⟨t',r',e⟩:=hlin.1.ne
       have:=congrArg List.length e
       simp at this ⊢
       omega
      have hj23:∃ r2,At s19 j2 r2∧r2.length=5:=by
       obtain ⟨r2,a2,l2⟩:=hj2
       exact ⟨r2,a2.keepB K19 (by omega) (by simp;omega),l2⟩
      have next:=ih (i+n) ((t::r).drop n) (vs++[x]) av' s19 (by rw [List.length_drop];omega) (by simp;omega) p19 (hl.go hlin.1) a19 hj23 (zlt hB K19.next) o19'
      have hend:i+n+(((t::r).drop n).length-1)=i+((t::r).length-1):=by rw [List.length_drop];omega
      rw [hend] at next
      have step:∀ y,zaH 11 [ptr b 0,ptr j2 0,ptr lb 0] s19=some y→zaH 11 [ptr b 0,ptr j2 0,ptr lb 0] st=some y:=fun y hy=>by
       refine zcP _ _ _ st ?_
       simp only [zcu,c1,zob,k0,zdf h0',znf,zct,c3,zal,List.getElem?_toArray,zgs,zgz,zaf,znt,zcf,e7,zad,l13,l14,hc15,List.append_nil,g1,e19]
       exact hy
      simp only
      cases hz:zcO k ((t::r).drop n) with
      | error o=>
        rw [hz] at next
        obtain ⟨st',row,d1,d2,d3,d4,d5,d6⟩:=next
        exact ⟨st',row,step _ d1,(K19.mono (zlr _) (fun j hj _=>by simp at hj ⊢;omega)).then d2,by rw [Nat.add_assoc] at d3;exact d3,d4,d5,d6⟩
      | ok qs=>
        rw [hz] at next
        obtain ⟨st',pv2,d1,d2,d3,d4,d5⟩:=next
        exact ⟨st',pv2,step _ d1,K19.then d2,d3,d4,by simpa using d5⟩
noncomputable def zgt (cf:zak) (lf:zac) (p':Value) (j2 lb:Nat) (s:SS):Option (Value×SS):=
 (cf 92 [p',.string ⟨#[46]⟩] s).bind fun a=>
  ((some a.1).bind asB).bind fun b=>
  cond b (
   (cf 93 [p'] a.2).bind fun c=>
   ((zal c.1 0).bind asS).bind fun d=>
   ((zal c.1 1).bind asB).bind fun e=>
   (c.2.st lb 2 [.string d]).bind fun f=>
   cond (!e) (
    (f.ldN lb 0 5).bind fun g=>
    (f.stV j2 0 5 g).bind fun h=>
    (h.rdN j2 0 5).bind fun i=>
    some (.tuple #[i,.bool false],h)) (
    (lf 11 [p',ptr j2 0,ptr lb 0] f).bind fun j=>
    cond (Nat.beq j.1 0) (
     (j.2.1[0]?).bind fun k=>
     (j.2.1[1]?).bind fun l=>
     (addr? l).bind fun m=>
     (j.2.2.ldN m.1 m.2 5).bind fun n=>
     (addr? k).bind fun o=>
     (j.2.2.stV o.1 o.2 5 n).bind fun p=>
     (addr? k).bind fun q=>
     (p.rdN q.1 q.2 5).bind fun r=>
     some (.tuple #[r,.bool true],p)) (
     (j.2.1[0]?).bind fun t=>
     ((j.2.1[1]?).bind asB).bind fun u=>
     (addr? t).bind fun v=>
     (j.2.2.rdN v.1 v.2 5).bind fun w=>
     some (.tuple #[w,.bool u],j.2.2)))) (
   (lf 17 [p',ptr j2 0,ptr lb 0] a.2).bind fun x=>
   cond (Nat.beq x.1 0) (
    (x.2.1[0]?).bind fun y=>
    (x.2.1[1]?).bind fun z=>
    (addr? z).bind fun A=>
    (x.2.2.ldN A.1 A.2 5).bind fun B=>
    (addr? y).bind fun C=>
    (x.2.2.stV C.1 C.2 5 B).bind fun D=>
    (addr? y).bind fun E=>
    (D.rdN E.1 E.2 5).bind fun F=>
    some (.tuple #[F,.bool true],D)) (
    (x.2.1[0]?).bind fun G=>
    ((x.2.1[1]?).bind asB).bind fun H=>
    (addr? G).bind fun I=>
    (x.2.2.rdN I.1 I.2 5).bind fun J=>
    some (.tuple #[J,.bool H],x.2.2)))
def zk4 (ln:Nat) (x:PLine) (av pv:Value):Value:=.agg #[.int .i64 ln,.string (mkS x.lab),.string (mkS x.dir),av,pv]
def zhE (B b:Nat) (v:Value) (us:List (Nat×Tok)) (i e ln:Nat) (st:SS) (r:Option (Value×SS)):Except Nat PLine→Prop
 | .ok x=>∃ st' av pv,r=some (.tuple #[zk4 ln x av pv,.bool true],st')∧Keep B [b] st st'∧PAt st' b v us e∧Own B st' av (rowsF valRow x.args) 3 x.args.length∧Own B st' pv (rowsF prRow x.prs) 5 x.prs.length
 | .error o=>∃ (st':SS) (row:List Value),r=some (.tuple #[.agg row.toArray,.bool false],st')∧Keep B [b] st st'∧PAt st' b v us (i+o)∧row.length=5∧row.all one=true
theorem zqd [Sym] {ln lb b j2 i B:Nat} {v:Value} {us:List (Nat×Tok)} {l:List Tok} {lab:List UInt8} {s:SS} (hBj:B≤j2) (hbB:b<B) (hjl:j2<lb) (hls:lb<s.next) (hsz:l.length≤1099511627776/8) (h:PAt s b v us i) (hl:LineAt us i ln l)
  (ha:At s lb [.int .i64 ln,.string (mkS lab),.string ⟨#[]⟩,.slice none 0 0,.slice none 0 0]) (hj2:∃ r2,At s j2 r2∧r2.length=5):
  zhE B b v us i (i+(l.length-1)) ln s (zgt cc zaH (ptr b 0) j2 lb s) (zcD lab l):=by
 obtain ⟨t,r,rfl⟩:=hl.lin.ne
 have hb0:Nat.beq 0 0=true:=rfl
 have hb1:Nat.beq 1 0=false:=rfl
 have hBs:B≤s.next:=by omega
 have hbj:b<j2:=by omega
 obtain ⟨s23,c23,m23,p23⟩:=zjM h hl.head [46]
 have c23':cc 92 [ptr b 0,.string ⟨#[46]⟩] s=some (.bool (zaA t [46]),s23):=c23
 have a23:=ha.mod m23 (by simp;omega)
 have hj23:∃ r2,At s23 j2 r2∧r2.length=5:=by obtain ⟨r2,a,l2⟩:=hj2;exact ⟨r2,a.mod m23 (by simp;omega),l2⟩
 have K23:Keep B [b] s s23:=m23.keepB hBs
 have nx23:=m23.next
 rw [zdX]
 by_cases hs:zaA t [46]=true
 ·rw [hs] at c23'
  rw [if_pos hs] at p23
  rw [if_pos hs]
  have hl1:=hl.tail (by have:=zbN hs;omega)
  obtain ⟨d,u,rfl⟩:=hl1.lin.ne
  obtain ⟨s25,c25,m25,p25⟩:=zqb p23 hl1.head
  have a25:=a23.mod m25 (by simp;omega)
  have hj25:∃ r2,At s25 j2 r2∧r2.length=5:=by obtain ⟨r2,a,l2⟩:=hj23;exact ⟨r2,a.mod m25 (by simp;omega),l2⟩
  have K25:=K23.thenM m25 (by omega)
  have nx25:=m25.next
  simp only
  by_cases hd:d.kd=1
  ·rw [if_pos hd,zdt hd] at c25
   rw [if_pos hd] at p25
   rw [if_pos hd]
   have hl2:=hl1.tail (by omega)
   obtain ⟨s28,e28,a28,m28,n28⟩:=a25.sto (k:=2) (vs:=[.string (mkS d.tx)]) (row':=[.int .i64 ln,.string (mkS lab),.string (mkS d.tx),.slice none 0 0,.slice none 0 0]) rfl rfl
   have hj28:∃ r2,At s28 j2 r2∧r2.length=5:=by obtain ⟨r2,a,l2⟩:=hj25;exact ⟨r2,a.mod m28 (by simp;omega),l2⟩
   have p28:=p25.modI m28 (by omega)
   have K28:=K25.thenI m28 (by omega) (.inl (by omega))
   have hloop:=zse (B:=s28.next) hbj hjl (by omega) ⟨rfl,rfl,rfl,rfl⟩ u.length (i+1+1) u [] (.slice none 0 0) s28 (zlr _) (by simp at hsz ⊢;omega) p28 hl2 a28 hj28 (zlr _) (Own.nil _ _ _)
   cases hx:zcO u.length u with
   | error o=>
     rw [hx] at hloop
     obtain ⟨s32,row,d1,d2,d3,d4,d5,d6⟩:=hloop
     have hr:=d4.rdN d5
     refine ⟨s32,row,?_,(K28.then (d2.mono (by omega) (fun j hj hlt=>by simp at hj ⊢;omega))),(by rw [show i+(2+o)=i+1+1+o by omega];exact d3),d5,d6⟩
     simp only [zgt,c23',zob,zaf,zct,c25,zal,List.getElem?_toArray,zgs,zgz,zab,e28,znt,zcf,d1,hb1,zad,hr]
   | ok vs=>
     rw [hx] at hloop
     obtain ⟨s32,av',d1,d2,d3,d4,d5⟩:=hloop
     obtain ⟨r2,a2,l2⟩:=hj28
     have a232:=a2.keepB d2 (by have:=a28.lt;omega) (by simp;omega)
     obtain ⟨s38,f1,f2,f3,f4,f5⟩:=za9 (n:=5) a232 l2 d4 rfl (by simp only [List.all_cons,List.all_nil,d5.cell.2];rfl)
     have K32:Keep B [b] s s32:=K28.then (d2.mono (by omega) (fun j hj hlt=>by simp at hj ⊢;omega))
     have nx32:=d2.next
     refine ⟨s38,av',.slice none 0 0,?_,K32.thenI f4 (by omega) (.inl hBj),?_,((ziW (S:=[]) d5 f4 (.inl (by have:=a28.lt;omega))).low (by omega)),Own.nil _ _ _⟩
     ·simp only [zgt,c23',zob,zaf,zct,c25,zal,List.getElem?_toArray,zgs,zgz,zab,e28,znt,zcf,d1,hb0,zad,f1,f2,f3]
      rfl
     ·have e':i+1+1+(u.length-1)=i+((t::d::u).length-1):=by
       obtain ⟨z1,z2,rfl⟩:=hl2.lin.ne
       simp;omega
      rw [← e'];exact d3.modI f4 hbj
  ·rw [if_neg hd,zdf hd] at c25
   rw [if_neg hd] at p25
   rw [if_neg hd]
   obtain ⟨s28,e28,a28,m28,n28⟩:=a25.sto (k:=2) (vs:=[.string (mkS [])]) (row':=[.int .i64 ln,.string (mkS lab),.string (mkS []),.slice none 0 0,.slice none 0 0]) rfl rfl
   obtain ⟨r2,a2,l2⟩:=hj25
   have a228:=a2.mod m28 (by simp;omega)
   obtain ⟨s30,f1,f2,f3,f4,f5⟩:=za9 (n:=5) a228 l2 a28 rfl rfl
   have K28:=K25.thenI m28 (by omega) (.inl (by omega))
   refine ⟨s30,[.int .i64 ln,.string (mkS lab),.string (mkS []),.slice none 0 0,.slice none 0 0],?_,K28.thenI f4 (by omega) (.inl hBj),(p25.modI m28 (by omega)).modI f4 hbj,rfl,rfl⟩
   simp only [zgt,c23',zob,zaf,zct,c25,zal,List.getElem?_toArray,zgs,zgz,zab,e28,znf,f1,f2,f3]
 ·have hs':zaA t [46]=false:=Bool.eq_false_iff.2 hs
  rw [hs'] at c23'
  rw [if_neg hs] at p23
  rw [if_neg hs]
  have hloop:=zqX (B:=s23.next) hbj hjl (by omega) ⟨rfl,rfl,rfl,rfl⟩ (t::r).length i (t::r) [] (.slice none 0 0) s23 (zlr _) (by simp at hsz ⊢;omega) p23 hl a23 hj23 (zlr _) (Own.nil _ _ _)
  have hloop':zpd s23.next b lb j2 (.int .i64 ln) (.string (mkS lab)) (.string ⟨#[]⟩) (.slice none 0 0) v us i (i+((t::r).length-1)) [] s23 (zaH 17 [ptr b 0,ptr j2 0,ptr lb 0] s23) (zba (t::r).length [] (t::r)):=hloop
  cases hx:zba (t::r).length [] (t::r) with
  | error o=>
    rw [hx] at hloop'
    obtain ⟨s32,row,d1,d2,d3,d4,d5,d6⟩:=hloop'
    have hr:=d4.rdN d5
    refine ⟨s32,row,?_,(K23.then (d2.mono (by omega) (fun j hj hlt=>by simp at hj ⊢;omega))),d3,d5,d6⟩
    simp only [zgt,c23',zob,zaf,zcf,d1,hb1,zad,hr,zgs,zgz]
  | ok ps=>
    rw [hx] at hloop'
    obtain ⟨s32,pv',d1,d2,d3,d4,d5⟩:=hloop'
    obtain ⟨r2,a2,l2⟩:=hj23
    have a232:=a2.keepB d2 (by have:=a23.lt;omega) (by simp;omega)
    obtain ⟨s38,f1,f2,f3,f4,f5⟩:=za9 (n:=5) a232 l2 d4 rfl (by simp only [List.all_cons,List.all_nil,d5.cell.2];rfl)
    have K32:Keep B [b] s s32:=K23.then (d2.mono (by omega) (fun j hj hlt=>by simp at hj ⊢;omega))
    have nx32:=d2.next
    refine ⟨s38,.slice none 0 0,pv',?_,K32.thenI f4 (by omega) (.inl hBj),d3.modI f4 hbj,Own.nil _ _ _,((ziW (S:=[]) d5 f4 (.inl (by have:=a23.lt;omega))).low (by omega))⟩
    simp only [zgt,c23',zob,zaf,zcf,d1,hb0,zct,zad,f1,f2,f3,zgs,zgz]
    rfl
end Go.Proofs.YtifploedaacedaaGreatDoorE
namespace Go.Proofs.YtifploedaacedaaGreatDoorE
open Go Go.E Go.Proofs
theorem zhE.to {B b i e ln:Nat} {v:Value} {us:List (Nat×Tok)} {st s:SS} {r r':Option (Value×SS)} {x:Except Nat PLine} (h:zhE B b v us i e ln s r x) (K:Keep B [b] st s) (hr:∀ y,r=some y→r'=some y):zhE B b v us i e ln st r' x:=by
 cases x with
 | ok x=>obtain ⟨st',av,pv,a,k,c⟩:=h;exact ⟨st',av,pv,hr _ a,K.then k,c⟩
 | error o=>obtain ⟨st',row,a,k,c⟩:=h;exact ⟨st',row,hr _ a,K.then k,c⟩
def offE (d:Nat):Except Nat PLine→Except Nat PLine
 | .error o=>.error (d+o)
 | .ok x=>.ok x
theorem zhE.off {B b i d e ln:Nat} {v:Value} {us:List (Nat×Tok)} {s:SS} {r:Option (Value×SS)} {x:Except Nat PLine} (h:zhE B b v us (i+d) e ln s r x):zhE B b v us i e ln s r (offE d x):=by
 cases x with
 | ok x=>exact h
 | error o=>obtain ⟨st',row,a,k,c,dd⟩:=h;exact ⟨st',row,a,k,by rw [← Nat.add_assoc];exact c,dd⟩
abbrev L5:List Value:=[.int .i64 0,.string ⟨#[]⟩,.string ⟨#[]⟩,.slice none 0 0,.slice none 0 0]
theorem zkL (t:Tok):zaA t [58]=(decide ((t.kd:Int)=3)&&decide (t.tx=[58])):=by
 unfold zaA
 congr 1
 by_cases h:t.kd=3
 ·have:(t.kd:Int)=3:=by omega
  rw [zdt h,zdt this]
 ·have:¬ (t.kd:Int)=3:=by omega
  rw [zdf h,zdf this]
theorem ztl [Sym] {st:SS} {ln b i:Nat} {v:Value} {us:List (Nat×Tok)} {l:List Tok} (hsz:l.length≤1099511627776/8) (h:PAt st b v us i) (hl:LineAt us i ln l):
  zhE st.next b v us i (i+(l.length-1)) ln st (cc 68 [ptr b 0] st) (readT l):=by
 obtain ⟨t,r,rfl⟩:=hl.lin.ne
 have hisz:=LineAt.sz h hl
 have hb:=h.blk.lt
 have a1:At (st.new (.cells L5 0)) st.next L5:=At.new h.ll L5
 have x1:Ext st (st.new (.cells L5 0)):=(Ext.refl st).new _
 obtain ⟨n1,hn1,c1⟩:=zcJ (h.ext x1).has hl.head
 have hn1':st.next+1≤n1:=hn1
 obtain ⟨s5,e5,a5,x5,_⟩:=ziK (st:=(st.new (.cells L5 0)).adv n1) (zlt h.ll (by simp;omega)) (r:=L5) (row:=[.int .i64 ln,.string (mkS []),.string ⟨#[]⟩,.slice none 0 0,.slice none 0 0]) rfl rfl
 have e5':(((st.new (.cells L5 0)).adv n1).new (.cells L5 0)).st ((st.new (.cells L5 0)).adv n1).next 0 [.int .i64 ln,.string ⟨#[]⟩,.string ⟨#[]⟩,.slice none 0 0,.slice none 0 0]=some s5:=e5
 have x05:Ext st s5:=x1.trans ((Ext.advR _ hn1).trans x5)
 have b5:=(a1.adv hn1).ext x5
 have p5:=h.ext x05
 have k3:=(zcW (ln:=ln) (t:=t)).2.2.1
 have k0:=(zcW (ln:=ln) (t:=t)).1
 have k1:=(zcW (ln:=ln) (t:=t)).2.1
 obtain ⟨u,hu,hread⟩:∃ u,us[if t.kd=0 then i else i+1]?=some (ln,u)∧((t.kd=1∧zaA u [58]=true∧∃ r',r=u::r')∨(¬ (t.kd=1∧zaA u [58]=true)∧readT (t::r)=zcD [] (t::r))):=by
  by_cases h0:t.kd=0
  ·have hr:=hl.lin.last h0
   subst hr
   exact ⟨t,by rw [if_pos h0];exact hl.head,.inr ⟨fun x=>by omega,rfl⟩⟩
  ·have hl1:=hl.tail h0
   obtain ⟨u,r',rfl⟩:=hl1.lin.ne
   refine ⟨u,by rw [if_neg h0];exact hl1.head,?_⟩
   by_cases hc:t.kd=1∧zaA u [58]=true
   ·exact .inl ⟨hc.1,hc.2,r',rfl⟩
   ·exact .inr ⟨hc,by rw [zev,if_neg hc]⟩
 obtain ⟨n2,hn2,c2⟩:=zut p5.has hl.head hu
 obtain ⟨s8,e8,a8,x8,_⟩:=zaQ (st:=s5.adv n2) (zlt (x05.ll h.ll) hn2) (r:=Z5) (zaJ (za5 ln u)) (n:=5) rfl rfl rfl
 have x08:Ext st s8:=x05.trans ((Ext.advR _ hn2).trans x8)
 obtain ⟨n3,hn3,c3⟩:=zcJ (h.ext x08).has hl.head
 have x58:Ext s5 (s8.adv n3):=((Ext.advR _ hn2).trans x8).trans (.advR _ hn3)
 have x09:Ext st (s8.adv n3):=x05.trans x58
 have p9:=h.ext x09
 have a9:=a5.ext x58
 have b9:=b5.ext x58
 have q9:=a8.ext (Ext.advR _ hn3)
 have l0:(s8.adv n3).ld (s5.adv n2).next 0=some (.int .i64 u.kd):=q9.ld
 have l1:(s8.adv n3).ld (s5.adv n2).next 1=some (.string (mkS u.tx)):=q9.ld
 have hlb:st.next<((st.new (.cells L5 0)).adv n1).next:=by simp;omega
 rcases hread with ⟨hk,hc,r',rfl⟩ | ⟨hc,hread⟩
 ·
  have hoff:readT (t::u::r')=offE 2 (zcD t.tx r'):=by
   rw [zev,if_pos ⟨hk,hc⟩]
   cases zcD t.tx r'<;>rfl
  rw [hoff]
  rw [zkL,zae,decide_eq_true_eq,decide_eq_true_eq] at hc
  have hk':(t.kd:Int)=1:=by omega
  have hl2:=(hl.tail (by omega)).tail (by omega)
  obtain ⟨n4,hn4,c4⟩:=zcJ p9.has hl.head
  have x010:Ext st ((s8.adv n3).adv n4):=x09.trans (.advR _ hn4)
  obtain ⟨s15,e15,a15,m15,_⟩:=(a9.adv hn4).sto (k:=1) (vs:=[.string (mkS t.tx)]) (row':=[.int .i64 ln,.string (mkS t.tx),.string ⟨#[]⟩,.slice none 0 0,.slice none 0 0]) rfl rfl
  have p15:=(h.ext x010).modI m15 (by omega)
  have b15:=(b9.adv hn4).mod m15 (by simp;omega)
  have M15:Mod [b] st s15:=(Mod.ofExt x010).thenI m15 (.inl (by omega))
  have l18:s15.ld b 1=some (.int .i64 i):=p15.blk.ld
  have hw:IntKind.wrap .i64 ((i:Int)+2)=((i+2:Nat):Int):=zmM hisz (k:=2) (by omega)
  obtain ⟨s22,e22,p22,m22,n22⟩:=p15.move (i+2)
  have a22:=a15.mod m22 (by simp;omega)
  have b22:=b15.mod m22 (by simp;omega)
  have M22:=M15.then m22
  have ht:=zqd (B:=st.next) (zlr _) hb hlb a22.lt (by simp at hsz ⊢;omega) p22 hl2 a22 ⟨_,b22,rfl⟩
  have hend:i+2+(r'.length-1)=i+((t::u::r').length-1):=by
   obtain ⟨z1,z2,rfl⟩:=hl2.lin.ne
   simp;omega
  rw [hend] at ht
  refine zhE.to (zhE.off (d:=2) ht) (M22.keepB (zlr _)) fun y hy=>?_
  refine zfA _ st ?_
  have hq:eqT (mkS u.tx) ⟨#[58]⟩=true:=by
   have:eqT (mkS u.tx) (mkS [58])=decide (u.tx=[58]):=zec _ _
   rw [zdt hc.2] at this;exact this
  simp only [zcB,c1,zob,k3,e5',c2,e8,c3,k0,zdt hk',zct,l0,l1,zaa,zab,zdt hc.1,hq,c4,k1,e15,zbM,zad,Nat.zero_add,l18,hw,e22]
  exact hy
 ·rw [hread]
  have ht:=zqd (B:=st.next) (s:=s8.adv n3) (zlr _) hb hlb a9.lt hsz p9 hl a9 ⟨_,b9,rfl⟩
  refine zhE.to ht (x09.keepB (zlr _)) fun y hy=>?_
  refine zfA _ st ?_
  by_cases hk:t.kd=1
  ·have hk':(t.kd:Int)=1:=by omega
   by_cases h3:(u.kd:Int)=3
   ·have hx:¬ u.tx=[58]:=fun e=>hc ⟨hk,by rw [zkL,zdt h3,zdt e];rfl⟩
    have hq:eqT (mkS u.tx) ⟨#[58]⟩=false:=by
     have:eqT (mkS u.tx) (mkS [58])=decide (u.tx=[58]):=zec _ _
     rw [zdf hx] at this;exact this
    simp only [zcB,c1,zob,k3,e5',c2,e8,c3,k0,zdt hk',zct,l0,l1,zaa,zab,zdt h3,hq,zcf]
    exact hy
   ·simp only [zcB,c1,zob,k3,e5',c2,e8,c3,k0,zdt hk',zct,l0,zaa,zdf h3,zcf]
    exact hy
  ·have hk':¬ (t.kd:Int)=1:=by omega
   simp only [zcB,c1,zob,k3,e5',c2,e8,c3,k0,zdf hk',zcf]
   exact hy
theorem zsf {lab:List UInt8} {l:List Tok} {x:PLine} (h:zcD lab l=.ok x):x.lab=lab:=by
 cases l with
 | nil=>cases h
 | cons t r=>
   rw [zdX] at h
   repeat' (split at h)
   all_goals first
    | (cases h;done)
    | (cases h;rfl)
theorem ztm {k:Nat} {seen:List (List UInt8)} {t:Tok} {r:List Tok} {ps:List Pr} (hk:t.kd≠0) (h:zba (k+1) seen (t::r)=.ok ps):ps≠[]:=by
 unfold zba at h
 rw [if_neg hk] at h
 cases hx:pairT seen (t::r) with
 | error o=>rw [hx] at h;cases h
 | ok y=>
   obtain ⟨p,n⟩:=y
   rw [hx] at h
   simp only at h
   cases hz:zba k (seen++[p.fd]) ((t::r).drop n) with
   | error o=>rw [hz] at h;cases h
   | ok qs=>rw [hz] at h;cases h;simp
theorem zsg {l:List Tok} {x:PLine} (hl:Lin l) (hok:∀ t∈l,TokOk t) (h:readT l=.ok x):(x.lab≠[]∨x.dir≠[]∨x.prs≠[])↔1<l.length:=by
 obtain ⟨t,r,rfl⟩:=hl.ne
 cases r with
 | nil=>
   have h0:t.kd=0:=by
    rcases hl with h | h
    ·exact h.1
    ·exact h.2.elim
   have hs:zaA t [46]=false:=by simp [zaA,h0]
   have h':zcD [] [t]=.ok x:=h
   rw [zdX,hs] at h'
   have e:zba [t].length [] [t]=.ok []:=by
    show zba 1 [] [t]=_
    unfold zba
    rw [if_pos h0]
   rw [e] at h'
   cases h'
   simp
 | cons s r=>
   have hk:t.kd≠0:=by
    rcases hl with h | h
    ·exact absurd h.2 (by simp)
    ·exact h.1
   refine ⟨fun _=>by simp,fun _=>?_⟩
   rw [zev] at h
   split at h
   ·rename_i hc
    cases hx:zcD t.tx r with
    | error o=>rw [hx] at h;cases h
    | ok y=>
      rw [hx] at h;cases h
      left
      rw [zsf hx]
      exact (hok t (List.mem_cons_self ..)).tx hc.1
   ·rw [zdX] at h
    split at h
    ·rename_i hs
     have hl1:=hl.tail hk
     simp only at h
     split at h
     ·rename_i hd
      split at h
      ·cases h
      ·cases h
       exact .inr (.inl ((hok s (by simp)).tx hd))
     ·cases h
    ·split at h
     ·cases h
     ·rename_i ps hp
      cases h
      exact .inr (.inr (ztm hk hp))
end Go.Proofs.YtifploedaacedaaGreatDoorE
namespace Go.Proofs.YtifploedaacedaaGreatDoorE
open Go Go.E Go.Proofs
def RdB (st:SS) (lo hi:Nat) (v:Value) (c:List Value) (z n:Nat):Prop:=Rd st v c z n∧∀ j k l q,v=.slice (some ⟨j,k,none⟩) l q→lo<j∧j<hi
theorem Own.rdB {B lo hi:Nat} {st:SS} {v:Value} {c:List Value} {z n:Nat} (h:Own B st v c z n) (hlo:lo<B) (hhi:st.next≤hi):RdB st lo hi v c z n:=by
 refine ⟨h.rd,fun j k l q hv=>?_⟩
 obtain ⟨_,⟨ev,_⟩ | ⟨i',ev,_,_,hbi,hi'⟩⟩:=h
 ·rw [ev] at hv;cases hv
 ·rw [ev] at hv;cases hv;omega
theorem RdB.go {st st':SS} {lo hi hi':Nat} {v:Value} {c:List Value} {z n:Nat} (h:RdB st lo hi v c z n) (hh:hi≤hi') (hn:st.next≤st'.next) (hk:∀ j,j<st.next→lo<j→j<hi→st'.mem.get j=st.mem.get j):RdB st' lo hi' v c z n:=by
 obtain ⟨⟨h1,h2⟩,h3⟩:=h
 refine ⟨⟨h1,h2.imp id ?_⟩,fun j k l q hv=>by have:=h3 j k l q hv;omega⟩
 rintro ⟨i,cap,e,⟨z',hm⟩,hi⟩
 have:=h3 i 0 n cap e
 exact ⟨i,cap,e,⟨z',(hk i hi this.1 this.2).trans hm⟩,zll hi hn⟩
abbrev Item:=PLine×Value×Value
def lnRow (x:Item):List Value:=[.int .i64 x.1.ln,.string (mkS x.1.lab),.string (mkS x.1.dir),x.2.1,x.2.2]
theorem zsh (x:Item):(lnRow x).length=5:=rfl
def ItB (st:SS) (lo hi:Nat) (x:Item):Prop:=RdB st lo hi x.2.1 (rowsF valRow x.1.args) 3 x.1.args.length∧RdB st lo hi x.2.2 (rowsF prRow x.1.prs) 5 x.1.prs.length
structure Coll (st:SS) (lo m B:Nat) (v:Value) (its:List Item):Prop where
 own:Own B st v (rowsF lnRow its) 5 its.length
 blk:∀ j k l q,v=.slice (some ⟨j,k,none⟩) l q→m≤j
 it:∀ x∈its,ItB st lo m x
 lo:lo<B
 le:m≤st.next
def ziX (st:SS) (v:Value) (xs:List PLine):Prop:=∃ its:List Item,its.map (·.1)=xs∧Rd st v (rowsF lnRow its) 5 its.length∧
 ∀ x∈its,Rd st x.2.1 (rowsF valRow x.1.args) 3 x.1.args.length∧Rd st x.2.2 (rowsF prRow x.1.prs) 5 x.1.prs.length
theorem ziX.ext {st st':SS} {v:Value} {xs:List PLine} (h:ziX st v xs) (x:Ext st st'):ziX st' v xs:=by
 obtain ⟨its,a,b,c⟩:=h
 exact ⟨its,a,b.ext x,fun y hy=>⟨(c y hy).1.ext x,(c y hy).2.ext x⟩⟩
theorem Coll.lines {st:SS} {lo m B:Nat} {v:Value} {its:List Item} (h:Coll st lo m B v its):ziX st v (its.map (·.1)):=⟨its,rfl,h.own.rd,fun x hx=>⟨(h.it x hx).1.1,(h.it x hx).2.1⟩⟩
theorem Coll.keep {st st':SS} {lo m B:Nat} {v:Value} {its:List Item} (h:Coll st lo m B v its) (k:Keep st.next [lo] st st'):Coll st' lo m B v its:=by
 refine ⟨?_,h.blk,fun x hx=>?_,h.lo,zlt h.le k.next⟩
 ·obtain ⟨h1,h2⟩:=h.own
  refine ⟨h1,h2.imp id ?_⟩
  rintro ⟨i,e,h0,hm,hb,hi⟩
  exact ⟨i,e,h0,(k.keep i hi (by have:=h.lo;simp;omega)).trans hm,hb,zll hi k.next⟩
 ·obtain ⟨h1,h2⟩:=h.it x hx
  exact ⟨h1.go (zlr _) k.next fun j hj h1 h2=>k.keep j hj (by simp;omega),h2.go (zlr _) k.next fun j hj h1 h2=>k.keep j hj (by simp;omega)⟩
theorem Coll.ext {st st':SS} {lo m B:Nat} {v:Value} {its:List Item} (h:Coll st lo m B v its) (x:Ext st st'):Coll st' lo m B v its:=h.keep (x.keepB (zlr _))
theorem Coll.push {st:SS} {lo m B:Nat} {v:Value} {its:List Item} (h:Coll st lo m B v its) (x:Item) (hB:B≤st.next) (hl:st.lim≤B) (hn:its.length≤1099511627776/8)
  (ho1:one x.2.1=true) (ho2:one x.2.2=true) (h1:RdB st lo st.next x.2.1 (rowsF valRow x.1.args) 3 x.1.args.length) (h2:RdB st lo st.next x.2.2 (rowsF prRow x.1.prs) 5 x.1.prs.length)
  (hne1:∀ j k l q k' l' q',v=.slice (some ⟨j,k,none⟩) l q→x.2.1≠.slice (some ⟨j,k',none⟩) l' q') (hne2:∀ j k l q k' l' q',v=.slice (some ⟨j,k,none⟩) l q→x.2.2≠.slice (some ⟨j,k',none⟩) l' q'):
  ∃ v' st',(st.new (.cells (lnRow x) 5)).app 5 88 v (.slice (some ⟨st.next,0,none⟩) 1 1)=some (v',st')∧Coll st' lo st.next B v' (its++[x])∧∀ S,Keep B S st st':=by
 obtain ⟨k,st',g1,gk,g2,g3,g4,g5⟩:=h.own.pushN hB hl (zsh x) (by omega) (by simp only [lnRow,List.all_cons,List.all_nil,ho1,ho2];rfl) (bt:=88) (by omega) (by omega)
 have kept:∀ j,j<st.next→(∀ k l q,v≠.slice (some ⟨j,k,none⟩) l q)→st'.mem.get j=st.mem.get j:=fun j hj hv=>g5 j hj fun q=>hv 0 q q
 refine ⟨_,st',g1,⟨?_,?_,?_,h.lo,g4⟩,fun S=>⟨g4,g3,fun j hj _=>kept j (by omega) fun k l q hv=>?_⟩⟩
 ·rw [zbS,zcV,List.length_append];exact g2
 ·intro j k' l q hv;cases hv;exact gk
 ·intro y hy
  rcases List.mem_append.1 hy with hy | hy
  ·obtain ⟨i1,i2⟩:=h.it y hy
   exact ⟨i1.go h.le g4 fun j hj _ hjm=>kept j hj fun k l q hv=>by have:=h.blk j k l q hv;omega,i2.go h.le g4 fun j hj _ hjm=>kept j hj fun k l q hv=>by have:=h.blk j k l q hv;omega⟩
  ·have:y=x:=by simpa using hy
   subst this
   refine ⟨?_,?_⟩
   ·obtain ⟨⟨c1,c2⟩,c3⟩:=h1
    refine ⟨⟨c1,c2.imp id ?_⟩,c3⟩
    rintro ⟨i,cap,e,⟨z',hm⟩,hi⟩
    exact ⟨i,cap,e,⟨z',(kept i hi fun k l q hv=>hne1 i k l q 0 _ cap hv e).trans hm⟩,zll hi g4⟩
   ·obtain ⟨⟨c1,c2⟩,c3⟩:=h2
    refine ⟨⟨c1,c2.imp id ?_⟩,c3⟩
    rintro ⟨i,cap,e,⟨z',hm⟩,hi⟩
    exact ⟨i,cap,e,⟨z',(kept i hi fun k l q hv=>hne2 i k l q 0 _ cap hv e).trans hm⟩,zll hi g4⟩
 ·obtain ⟨_,⟨ev,_⟩ | ⟨i',ev,_,_,hbi,hi'⟩⟩:=h.own
  ·rw [ev] at hv;cases hv
  ·rw [ev] at hv;cases hv;omega
theorem zsi (k:Nat) (ts:List Tok) (r:List (List Tok)):flat k (ts::r)=ts.map (fun t=>(k+1,t))++flat (k+1) r:=rfl
theorem zsk {us:List (Nat×Tok)} {i k:Nat} {ts:List Tok} {r:List (List Tok)} (h:us.drop i=flat k (ts::r)):us.drop (i+ts.length)=flat (k+1) r:=by
 rw [← List.drop_drop,h,zsi]
 rw [List.drop_append_of_le_length (by simp),List.drop_of_length_le (by simp),List.nil_append]
def zm0 (B lo b0:Nat) (st:SS) (its:List Item) (r:Option (Nat×List Value×SS)):Except (Nat×Nat) (List PLine)→Prop
 | .ok xs=>∃ v st' m its',r=some (0,[ptr b0 0,v],st')∧Keep B [lo] st st'∧its'.map (·.1)=its.map (·.1)++xs∧Coll st' lo m B v its'
 | .error e=>∃ st',r=some (1,[.slice none 0 0,ptr b0 0,.int .i64 4],st')∧Keep B [lo,b0] st st'∧At st' b0 [.int .i64 e.1,.int .i64 e.2]
theorem zm0.to {B lo b0:Nat} {st s:SS} {its its':List Item} {x:PLine} {c:Bool} {r r':Option (Nat×List Value×SS)} {y:Except (Nat×Nat) (List PLine)} (h:zm0 B lo b0 s its' r y) (K:Keep B [lo] st s) (hr:∀ z,r=some z→r'=some z) (hi:its'.map (·.1)=its.map (·.1)++(if c=true then [x] else [])):
  zm0 B lo b0 st its r' (match y with
   | .error e=>.error e
   | .ok xs=>.ok (if c=true then x::xs else xs)):=by
 cases y with
 | error e=>
   obtain ⟨st',a,k,d⟩:=h
   exact ⟨st',hr _ a,(K.mono (zlr _) (fun j hj _=>by simp at hj ⊢;omega)).then k,d⟩
 | ok xs=>
   obtain ⟨v,st',m,its2,a,k,d,e⟩:=h
   refine ⟨v,st',m,its2,hr _ a,K.then k,?_,e⟩
   rw [d,hi]
   cases c<;>simp
theorem zqY [Sym] {lo b0 B:Nat} {v:Value} {us:List (Nat×Tok)} (hb0:b0<lo) (hloB:lo<B) (hus:us.length≤1099511627776/64):∀ (tss:List (List Tok)) (i k m:Nat) (out:Value) (its:List Item) (st:SS),us.drop i=flat k tss→i≤us.length→(∀ ts∈tss,Lin ts∧∀ t∈ts,TokOk t)→
  PAt st lo v us i→Coll st lo m B out its→(∃ r,At st b0 r∧r.length=2)→B≤st.next→its.length≤i→
  zm0 B lo b0 st its (zbO 6 [ptr b0 0,v,ptr lo 0,out] st) (zbQ k tss):=by
 intro tss
 induction tss with
 | nil=>
   intro i k m out its st hd hi hok h hc ha hB hn
   have hil:i=us.length:=by
    have:us.drop i=[]:=hd
    rw [List.drop_eq_nil_iff] at this;omega
   have hlv:(lenV v).bind (asI .i64)=some (us.length:Int):=by rw [h.rd.len];rfl
   have l1:st.ld lo 1=some (.int .i64 i):=h.blk.ld
   have hlt:¬ (i:Int)<(us.length:Int):=by omega
   refine ⟨out,st,m,its,zdm _ v _ out st ?_,.refl _,by simp,hc⟩
   simp only [zb8,zbM,zad,zob,Nat.zero_add,l1,zaa,hlv,zdf hlt,zcf]
 | cons ts r ih=>
   intro i k m out its st hd hi hok h hc ha hB hn
   obtain ⟨hlin,htok⟩:=hok ts (List.mem_cons_self ..)
   have hl:LineAt us i (k+1) ts:=⟨⟨flat (k+1) r,hd⟩,hlin,htok⟩
   have hlen:i+ts.length≤us.length:=by
    have:=congrArg List.length hd
    unfold flat at this
    simp at this
    omega
   have hpos:0<ts.length:=by obtain ⟨t,u,rfl⟩:=hlin.ne;simp
   have hlt:(i:Int)<(us.length:Int):=by omega
   have hlv:(lenV v).bind (asI .i64)=some (us.length:Int):=by rw [h.rd.len];rfl
   have l1:st.ld lo 1=some (.int .i64 i):=h.blk.ld
   have hline:=ztl (by omega) h hl
   have hlim:st.lim≤B:=by have:=h.blk.2.2;omega
   unfold zbQ
   cases hx:readT ts with
   | error o=>
     rw [hx] at hline
     obtain ⟨s5,row,c5,K5,p5,hrow,hrow1⟩:=hline
     have hoff:=zn0 ts hlin o hx
     obtain ⟨t,ht⟩:∃ t,ts[o]?=some t:=⟨_,zge hoff⟩
     have hu:us[i+o]?=some (k+1,t):=by
      obtain ⟨rest,hr⟩:=hl.drop
      have:=congrArg (·[o]?) hr
      simp only [List.getElem?_drop] at this
      rw [this,List.getElem?_append_left (by simp;omega),List.getElem?_map,ht]
      rfl
     obtain ⟨s9,e9,a9,x9,_⟩:=zaQ (st:=s5) p5.ll (r:=L5) (zaJ row) (n:=5) hrow hrow1 rfl
     have p9:=p5.ext x9
     obtain ⟨n1,hn1,c1⟩:=zcJ p9.has hu
     have x1:Ext s9 (s9.adv n1):=.advR _ hn1
     obtain ⟨n2,hn2,c2⟩:=zcJ (p9.ext x1).has hu
     have x2:Ext s9 ((s9.adv n1).adv n2):=x1.trans (.advR _ hn2)
     obtain ⟨ra,aa,hra⟩:=ha
     have aa2:=((aa.keepB K5 aa.lt (by simp;omega)).ext x9).ext x2
     obtain ⟨s15,e15,a15,m15,_⟩:=aa2.sto (k:=0) (vs:=[.int .i64 ((k+1:Nat):Int),.int .i64 t.col]) (row':=[.int .i64 ((k+1:Nat):Int),.int .i64 t.col]) rfl (by rw [zbB (by simp;omega)];simp [hra])
     have k3:=(zcW (ln:=k+1) (t:=t)).2.2.1
     have k4:=(zcW (ln:=k+1) (t:=t)).2.2.2
     have hcol:zmV ts o=t.col:=by unfold zmV;rw [ht];rfl
     have K5':Keep B [lo,b0] st s5:=K5.mono hB (fun j hj _=>by simp at hj ⊢;omega)
     have nx5:B≤s5.next:=zlt hB K5'.next
     have nx9:B≤s9.next:=zlt nx5 x9.next
     refine ⟨s15,zdm _ v _ out st ?_,((K5'.thenX x9 nx5).thenX x2 nx9).thenI m15 (zlt nx9 x2.next) (.inr (by simp)),by rw [hcol];exact a15⟩
     simp only [zb8,zbM,zad,zob,Nat.zero_add,l1,zaa,hlv,zdt hlt,zct,c5,zal,List.getElem?_toArray,zgs,zgz,zaf,e9,znf,c1,k3,c2,k4,e15]
   | ok x=>
     rw [hx] at hline
     obtain ⟨s5,av,pv,c5,K5,p5,o1,o2⟩:=hline
     have hkept:=zsg hlin htok hx
     obtain ⟨s9,e9,a9,x9,_⟩:=zaQ (st:=s5) p5.ll (r:=L5) (zaJ [.int .i64 ((k+1:Nat):Int),.string (mkS x.lab),.string (mkS x.dir),av,pv]) (n:=5) rfl (by simp only [List.all_cons,List.all_nil,o1.cell.2,o2.cell.2];rfl) rfl
     have e9':(s5.new (.cells L5 0)).stV s5.next 0 5 (zk4 (k+1) x av pv)=some s9:=e9
     have p9:=p5.ext x9
     have hend:i+(ts.length-1)+1=i+ts.length:=by omega
     have l18:s9.ld lo 1=some (.int .i64 ((i+(ts.length-1):Nat):Int)):=p9.blk.ld
     have hw:IntKind.wrap .i64 (((i+(ts.length-1):Nat):Int)+1)=((i+ts.length:Nat):Int):=by rw [za6 (by omega),hend]
     obtain ⟨s22,e22,p22,m22,n22⟩:=p9.move (i+ts.length)
     have hlo5:lo<s5.next:=p5.blk.lt
     have a22:=a9.mod m22 (by simp;omega)
     have K9:Keep st.next [lo] st s9:=K5.thenX x9 K5.next
     have K22:Keep st.next [lo] st s22:=K9.thenI m22 (zlt K5.next x9.next) (.inr (by simp))
     have hc22:=hc.keep K22
     have nx22:B≤s22.next:=zlt hB K22.next
     have ha22:∃ r,At s22 b0 r∧r.length=2:=by
      obtain ⟨ra,aa,hra⟩:=ha
      exact ⟨ra,aa.keepB K22 aa.lt (by simp;omega),hra⟩
     have hd':=zsk hd
     have hok':∀ ts∈r,Lin ts∧∀ t∈ts,TokOk t:=fun q hq=>hok q (List.mem_cons_of_mem _ hq)
     have l23:s22.ld s5.next 1=some (.string (mkS x.lab)):=a22.ld
     have l28:s22.ld s5.next 2=some (.string (mkS x.dir)):=a22.ld
     have l33:s22.ld s5.next 4=some pv:=a22.ld
     have hq1:eqT (mkS x.lab) ⟨#[]⟩=decide (x.lab=[]):=zea _
     have hq2:eqT (mkS x.dir) ⟨#[]⟩=decide (x.dir=[]):=zea _
     have hlp:(lenV pv).bind (asI .i64)=some (x.prs.length:Int):=by rw [o2.len];rfl
     by_cases hkp:1<ts.length
     ·
      have w1:RdB s22 lo s22.next av (rowsF valRow x.args) 3 x.args.length:=by
       refine (Own.rdB o1 (lo:=lo) (hi:=s5.next) h.blk.lt (zlr _)).go (by have:=x9.next;omega) (by have:=x9.next;omega) fun j hj h1 _=>?_
       rw [m22.keep j (by have:=x9.next;omega) (by simp;omega),x9.keep j hj]
      have w2:RdB s22 lo s22.next pv (rowsF prRow x.prs) 5 x.prs.length:=by
       refine (Own.rdB o2 (lo:=lo) (hi:=s5.next) h.blk.lt (zlr _)).go (by have:=x9.next;omega) (by have:=x9.next;omega) fun j hj h1 _=>?_
       rw [m22.keep j (by have:=x9.next;omega) (by simp;omega),x9.keep j hj]
      have hnew:∀ w:Value,(∀ j k l q,w=.slice (some ⟨j,k,none⟩) l q→st.next≤j)→∀ j k l q k' l' q',out=.slice (some ⟨j,k,none⟩) l q→w≠.slice (some ⟨j,k',none⟩) l' q':=by
       intro w hw j k l q k' l' q' ho he
       have h1:=hw j k' l' q' he
       obtain ⟨_,⟨ev,_⟩ | ⟨i',ev,_,_,hbi,hi'⟩⟩:=hc.own
       ·rw [ev] at ho;cases ho
       ·rw [ev] at ho;cases ho;omega
      have hown:∀ {w:Value} {c:List Value} {z n:Nat},Own st.next s5 w c z n→∀ j k l q,w=.slice (some ⟨j,k,none⟩) l q→st.next≤j:=by
       intro w c z n ho j k l q hv
       obtain ⟨_,⟨ev,_⟩ | ⟨i',ev,_,_,hbi,hi'⟩⟩:=ho
       ·rw [ev] at hv;cases hv
       ·rw [ev] at hv;cases hv;exact hbi
      obtain ⟨out',s27,g1,g2,g3⟩:=hc22.push ({ x with ln:=k+1 },av,pv) nx22 (by rw [K22.lim];exact hlim) (by omega) o1.cell.2 o2.cell.2 w1 w2 (hnew av (hown o1)) (hnew pv (hown o2))
      have g1':(s22.new (.cells ([.int .i64 ((k+1:Nat):Int),.string (mkS x.lab),.string (mkS x.dir),av,pv]++[]) 5)).app 5 88 out (.slice (some ⟨s22.next,0,none⟩) 1 1)=some (out',s27):=g1
      have K27:Keep B [lo] st s27:=(K22.mono hB (fun _ hj _=>hj)).then (g3 _)
      have ha27:∃ r,At s27 b0 r∧r.length=2:=by
       obtain ⟨ra,aa,hra⟩:=ha22
       exact ⟨ra,aa.keepB (g3 []) (by omega) (by simp),hra⟩
      have next:=ih (i+ts.length) (k+1) s22.next out' (its++[({ x with ln:=k+1 },av,pv)]) s27 hd' (by omega) hok' (p22.keepB (g3 []) hloB (by simp)) g2 ha27 (zlt hB K27.next) (by simp;omega)
      have l24:s22.ldN s5.next 0 5=some (.agg [.int .i64 ((k+1:Nat):Int),.string (mkS x.lab),.string (mkS x.dir),av,pv].toArray):=a22.ldN rfl
      have hc25:zaE (.agg [.int .i64 ((k+1:Nat):Int),.string (mkS x.lab),.string (mkS x.dir),av,pv].toArray) 5=some [.int .i64 ((k+1:Nat):Int),.string (mkS x.lab),.string (mkS x.dir),av,pv]:=cells5 _ _ _ _ _
      have step:∀ z,zbO 6 [ptr b0 0,v,ptr lo 0,out'] s27=some z→zbO 6 [ptr b0 0,v,ptr lo 0,out] st=some z:=fun z hz=>by
       refine zdm _ v _ out st ?_
       by_cases h1:x.lab=[]
       ·by_cases h2:x.dir=[]
        ·have h3:x.prs≠[]:=by
          rcases hkept.2 hkp with h | h | h
          ·exact absurd h1 h
          ·exact absurd h2 h
          ·exact h
         have h4:(0:Int)<(x.prs.length:Int):=by
          have:=List.length_pos_iff.2 h3
          omega
         simp only [zb8,zbM,zad,zob,Nat.zero_add,l1,zaa,hlv,zdt hlt,zct,c5,zal,List.getElem?_toArray,zgs,zgz,zaf,e9',znt,zcf,l18,hw,e22,l23,zab,hq1,zdt h1,l28,hq2,zdt h2,l33,hlp,zdt h4,l24,hc25,g1']
         exact hz
        ·simp only [zb8,zbM,zad,zob,Nat.zero_add,l1,zaa,hlv,zdt hlt,zct,c5,zal,List.getElem?_toArray,zgs,zgz,zaf,e9',znt,zcf,l18,hw,e22,l23,zab,hq1,zdt h1,l28,hq2,zdf h2,znf,l24,hc25,g1']
         exact hz
       ·simp only [zb8,zbM,zad,zob,Nat.zero_add,l1,zaa,hlv,zdt hlt,zct,c5,zal,List.getElem?_toArray,zgs,zgz,zaf,e9',znt,zcf,l18,hw,e22,l23,zab,hq1,zdf h1,znf,l24,hc25,g1']
        exact hz
      simp only
      cases hy:zbQ (k+1) r with
      | error e=>
        rw [hy] at next
        obtain ⟨st',a,k',d⟩:=next
        exact ⟨st',step _ a,(K27.mono (zlr _) (fun j hj _=>by simp at hj ⊢;omega)).then k',d⟩
      | ok xs=>
        rw [hy] at next
        obtain ⟨v2,st',m',its2,a,k',d,e⟩:=next
        refine ⟨v2,st',m',its2,step _ a,K27.then k',?_,e⟩
        rw [d];simp [hkp]
     ·have hnone:¬ (x.lab≠[]∨x.dir≠[]∨x.prs≠[]):=fun hh=>hkp (hkept.1 hh)
      have h1:x.lab=[]:=Classical.byContradiction fun hh=>hnone (.inl hh)
      have h2:x.dir=[]:=Classical.byContradiction fun hh=>hnone (.inr (.inl hh))
      have h3:x.prs=[]:=Classical.byContradiction fun hh=>hnone (.inr (.inr hh))
      have h4:¬ (0:Int)<(x.prs.length:Int):=by rw [h3];simp
      have K22':Keep B [lo] st s22:=K22.mono hB (fun _ hj _=>hj)
      have next:=ih (i+ts.length) (k+1) m out its s22 hd' (by omega) hok' p22 hc22 ha22 nx22 (by omega)
      have step:∀ z,zbO 6 [ptr b0 0,v,ptr lo 0,out] s22=some z→zbO 6 [ptr b0 0,v,ptr lo 0,out] st=some z:=fun z hz=>by
       refine zdm _ v _ out st ?_
       simp only [zb8,zbM,zad,zob,Nat.zero_add,l1,zaa,hlv,zdt hlt,zct,c5,zal,List.getElem?_toArray,zgs,zgz,zaf,e9',znt,zcf,l18,hw,e22,l23,zab,hq1,zdt h1,l28,hq2,zdt h2,l33,hlp,zdf h4]
       exact hz
      simp only
      cases hy:zbQ (k+1) r with
      | error e=>
        rw [hy] at next
        obtain ⟨st',a,k',d⟩:=next
        exact ⟨st',step _ a,(K22'.mono (zlr _) (fun j hj _=>by simp at hj ⊢;omega)).then k',d⟩
      | ok xs=>
        rw [hy] at next
        obtain ⟨v2,st',m',its2,a,k',d,e⟩:=next
        refine ⟨v2,st',m',its2,step _ a,K22'.then k',?_,e⟩
        rw [d];simp [hkp]
theorem zsl (ps:List (List UInt8)) (i:Nat) (tss:List (List Tok)) (h:zci i ps=.ok tss):tss.length=ps.length:=by
 induction ps generalizing i tss with
 | nil=>cases h;rfl
 | cons p r ih=>
   unfold zci at h
   cases hx:zbV p with
   | error c=>rw [hx] at h;cases h
   | ok ts=>
     rw [hx] at h
     cases hy:zci (i+1) r with
     | error e=>rw [hy] at h;cases h
     | ok us=>rw [hy] at h;cases h;simp [ih _ _ hy]
def ParR (st:SS) (r:Option (Value×SS)):Except (Nat×Nat) (List PLine)→Prop
 | .ok xs=>∃ v st',r=some (.tuple #[v,zbj (0,0),.int .i64 0],st')∧Ext st st'∧ziX st' v xs
 | .error e=>∃ st',r=some (.tuple #[.slice none 0 0,zbj e,.int .i64 4],st')∧Ext st st'
theorem ztn [Sym] {st:SS} (hg:Gd st) (hl:st.lim≤st.next) (s:ByteArray) (hs:s.size≤65536):ParR st (cc 42 [.string s] st) (zfc (bl s)):=by
 have a1:At (st.new (.cells [.int .i64 0,.int .i64 0] 0)) st.next [.int .i64 0,.int .i64 0]:=At.new hl _
 have x1:Ext st (st.new (.cells [.int .i64 0,.int .i64 0] 0)):=(Ext.refl st).new _
 have hlex:=lex_ok (hg.ext x1) (x1.ll hl) s (by omega)
 have hlx:zl0 (bl s)=match zci 0 (pieces 10 (bl s)) with
  | .error e=>.error e
  | .ok tss=>.ok (flat 0 tss):=zmW _ _
 unfold zfc
 have hb0:Nat.beq 0 0=true:=rfl
 have hb1:Nat.beq 1 0=false:=rfl
 cases hy:zci 0 (pieces 10 (bl s)) with
 | error e=>
   rw [hy] at hlx
   rw [hlx] at hlex
   obtain ⟨s2,c2,x2⟩:=hlex
   have c2':cc 67 [.string s] (st.new (.cells [.int .i64 0,.int .i64 0] 0))=some (.tuple #[.slice none 0 0,zbj e,.int .i64 4],s2):=c2
   obtain ⟨s7,e7,a7,x7,_⟩:=zaQ (st:=s2) ((x1.trans x2).ll hl) (r:=[.int .i64 0,.int .i64 0]) (v:=zbj e) (row:=[.int .i64 e.1,.int .i64 e.2]) (n:=2) rfl rfl rfl rfl
   have a17:=(a1.ext x2).ext x7
   obtain ⟨s9,f1,f2,f3,f4,f5⟩:=za9 (n:=2) a17 rfl a7 rfl rfl
   have h40:decide ((4:Int)=0)=false:=rfl
   refine ⟨s9,zfZ s st ?_,((Mod.ofExt (S:=[st.next]) ((x1.trans x2).trans x7)).then f4).fresh (by simp)⟩
   simp only [zfY,c2',zob,zal,List.getElem?_toArray,zgs,zgz,zaa,e7,h40,znf,zct,f1,f2,f3]
   rfl
 | ok tss=>
   rw [hy] at hlx
   have hlen:=ztd _ _ hlx
   rw [zaF] at hlen
   have hlen2:(s.size+1)*(s.size+1)≤65537*65537:=Nat.mul_le_mul (by omega) (by omega)
   rw [hlx] at hlex
   obtain ⟨v,s2,c2,x2,o2⟩:=hlex
   have c2':cc 67 [.string s] (st.new (.cells [.int .i64 0,.int .i64 0] 0))=some (.tuple #[v,zbj (0,0),.int .i64 0],s2):=c2
   obtain ⟨s7,e7,a7,x7,_⟩:=zaQ (st:=s2) ((x1.trans x2).ll hl) (r:=[.int .i64 0,.int .i64 0]) (v:=zbj (0,0)) (row:=[.int .i64 0,.int .i64 0]) (n:=2) rfl rfl rfl rfl
   have x07:=(x1.trans x2).trans x7
   have hc11:zaE v 1=some [v]:=by unfold zaE;obtain ⟨_,⟨rfl,_⟩ | ⟨i,rfl,_⟩⟩:=o2<;>rfl
   have hrow:(Value.agg ⟨spl [.slice none 0 0,.int .i64 0] 0 [v]⟩:Value).cells.toList=[v,.int .i64 0]:=by simp [spl,Value.cells]
   have ab:At (s7.new (.cells [v,.int .i64 0] 0)) s7.next [v,.int .i64 0]:=At.new (x07.ll hl) _
   have x12:Ext s7 (s7.new (.cells [v,.int .i64 0] 0)):=(Ext.refl s7).new _
   have hsn:st.next<s7.next:=by have:=x2.next;have:=x7.next;simp at*;omega
   have hp:PAt (s7.new (.cells [v,.int .i64 0] 0)) s7.next v (flat 0 tss) 0:=by
    refine ⟨ab,((o2.rd.ext x7).ext x12),fun j k l q hv=>?_,by omega,(x07.trans x12).ll hl⟩
    obtain ⟨_,⟨ev,_⟩ | ⟨i',ev,_,_,hbi,hi'⟩⟩:=o2
    ·rw [ev] at hv;cases hv
    ·rw [ev] at hv;cases hv
     have:=x7.next
     omega
   have hloop:=zqY (lo:=s7.next) (b0:=st.next) (B:=s7.next+1) hsn (by omega) (by omega) tss 0 0 s7.next (.slice none 0 0) [] (s7.new (.cells [v,.int .i64 0] 0)) (by simp) (by omega) (ztk _ _ _ hy) hp
    ⟨Own.nil _ _ _,fun j k l q hv=>(by cases hv),fun x hx=>(by cases hx),by omega,by simp⟩ ⟨_,(((a1.ext x2).ext x7).ext x12),rfl⟩ (by simp) (by simp)
   show ParR st _ (zbQ 0 tss)
   cases hz:zbQ 0 tss with
   | error e=>
     rw [hz] at hloop
     obtain ⟨s13,d1,d2,d3⟩:=hloop
     have hr:=d3.rdN (n:=2) rfl
     have x13:Ext st s13:=((Mod.ofExt (S:=[s7.next,st.next]) (x07.trans x12)).then (d2.mod (by simp))).fresh (by simp;omega)
     refine ⟨s13,zfZ s st ?_,x13⟩
     simp only [zfY,c2',zob,zal,List.getElem?_toArray,zgs,zgz,zaa,e7,decide_true,znt,zcf,hc11,hrow,d1,hb1,zad,hr]
     rfl
   | ok xs=>
     rw [hz] at hloop
     obtain ⟨w,s13,m,its,d1,d2,d3,d4⟩:=hloop
     have a13:=(((a1.ext x2).ext x7).ext x12).keepB d2 (by omega) (by simp;omega)
     obtain ⟨s17,e17,a17,m17,n17⟩:=a13.sto (k:=0) (vs:=[.int .i64 0,.int .i64 0]) (row':=[.int .i64 0,.int .i64 0]) rfl rfl
     have hr:=a17.rdN (n:=2) rfl
     have d4':Coll s17 s7.next m (s7.next+1) w its:=by
      refine ⟨ziW (S:=[]) d4.own m17 (.inl (by omega)),d4.blk,fun x hx=>?_,d4.lo,by rw [n17];exact d4.le⟩
      obtain ⟨i1,i2⟩:=d4.it x hx
      exact ⟨i1.go (zlr _) m17.next fun j hj h1 h2=>m17.keep j hj (by simp;omega),i2.go (zlr _) m17.next fun j hj h1 h2=>m17.keep j hj (by simp;omega)⟩
     have x17:Ext st s17:=(((Mod.ofExt (S:=[s7.next,st.next]) (x07.trans x12)).then ((d2.mod (by simp)).mono (by simp))).thenI m17 (.inr (by simp))).fresh (by simp;omega)
     refine ⟨w,s17,zfZ s st ?_,x17,?_⟩
     ·simp only [zfY,c2',zob,zal,List.getElem?_toArray,zgs,zgz,zaa,e7,decide_true,znt,zcf,hc11,hrow,d1,hb0,zct,zad,e17,hr]
      rfl
     ·have:=d4'.lines
      rw [d3] at this
      simpa using this
end Go.Proofs.YtifploedaacedaaGreatDoorE
namespace Go.Proofs.YtifploedaacedaaGreatDoorE
set_option maxRecDepth 20000
open Go Go.E Go.Proofs
noncomputable def zfl (cf:zak) (lf:zac) (l':Value) (i':Int) (kind':Int) (text':ByteArray) (st:SS):Option (Value×SS):=
 ((lenV l').bind (asI .i64)).bind fun a=>
 cond (decide (i'<a)) (
 (zar l' i' 5).bind fun b=>
 (((st.ro st.next).ld b.1 b.2).bind (asI .i64)).bind fun c=>
 cond (decide (c=kind')) (
 (zar l' i' 5).bind fun d=>
 (((st.ro st.next).ld d.1 (d.2+1)).bind asS).bind fun e=>
 some (.bool (eqT e text'),st.adv (st.ro st.next).next)) (
 some (.bool false,st.adv (st.ro st.next).next))) (
 some (.bool false,st.adv (st.ro st.next).next))
noncomputable abbrev zj3:zac:=lS Tryz.prog Lk0 Tryz.f81 zaG
theorem zj4:Lk0.func 81=some (81,Tryz.f81):=by kernel_rfl
theorem zj5 [Sym] (l':Value) (i':Int) (kind':Int) (text':ByteArray) (st:SS) {r:Value×SS} (h:zfl cc zj3 l' i' kind' text' st=some r):cc 81 [l',.int .i64 i',.int .i64 kind',.string text'] st=some r:=
 zah (li:=zaG) zai zaq zj4 rfl (fun _=>rfl) (.trans (by kernel_rfl) h)
noncomputable def zbn (cf:zak) (lf:zac) (l':Value) (i':Int) (st:SS):Option (Value×SS):=
 let a:SS:=(st.ro st.next).new (.cells [.string ⟨#[]⟩,.int .i64 0,.int .i64 0] 0)
 (zar l' i' 5).bind fun b=>
 ((a.ld b.1 (b.2+4)).bind (asI .i64)).bind fun c=>
 let d:SS:=a.new (.cells [.string ⟨#[]⟩,.int .i64 0,.int .i64 0] 0)
 (d.st a.next 0 [.string ⟨#[]⟩,.int .i64 0,.int .i64 c]).bind fun e=>
 (zar l' i' 5).bind fun f=>
 ((e.ld f.1 f.2).bind (asI .i64)).bind fun g=>
 cond (decide (g=2)) (
 (zar l' i' 5).bind fun h=>
 ((e.ld h.1 (h.2+2)).bind (asI .i64)).bind fun i=>
 (e.st a.next 1 [.int .i64 i]).bind fun j=>
 (j.ldN a.next 0 3).bind fun k=>
 (j.stV ((st.ro st.next).next) 0 3 k).bind fun l=>
 (l.rdN ((st.ro st.next).next) 0 3).bind fun m=>
 cond (flat3 (.tuple #[m,.int .i64 1])) (some (.tuple #[m,.int .i64 1],st.adv l.next)) none) (
 (zar l' i' 5).bind fun n=>
 ((e.ld n.1 n.2).bind (asI .i64)).bind fun o=>
 cond (!(decide (o=1))) (
 (e.ldN a.next 0 3).bind fun p=>
 (e.stV ((st.ro st.next).next) 0 3 p).bind fun q=>
 (q.rdN ((st.ro st.next).next) 0 3).bind fun r=>
 cond (flat3 (.tuple #[r,.int .i64 (-1)])) (some (.tuple #[r,.int .i64 (-1)],st.adv q.next)) none) (
 (zar l' i' 5).bind fun s=>
 ((e.ld s.1 (s.2+1)).bind asS).bind fun t=>
 (e.st a.next 0 [.string t]).bind fun u=>
 let v:Int:=IntKind.wrap .i64 (i'+1)
 (cf 81 [l',.int .i64 v,.int .i64 3,.string ⟨#[43]⟩] u).bind fun w=>
 ((some w.1).bind asB).bind fun x=>
 cond (!x) (
 let y:Int:=IntKind.wrap .i64 (i'+1)
 (cf 81 [l',.int .i64 y,.int .i64 3,.string ⟨#[45]⟩] w.2).bind fun z=>
 ((some z.1).bind asB).bind fun A=>
 cond (!A) (
 (z.2.ldN a.next 0 3).bind fun B=>
 (z.2.stV ((st.ro st.next).next) 0 3 B).bind fun C=>
 (C.rdN ((st.ro st.next).next) 0 3).bind fun D=>
 cond (flat3 (.tuple #[D,.int .i64 1])) (some (.tuple #[D,.int .i64 1],st.adv C.next)) none) (
 let E:Int:=IntKind.wrap .i64 (i'+2)
 (zar l' E 5).bind fun F=>
 ((z.2.ld F.1 F.2).bind (asI .i64)).bind fun G=>
 cond (!(decide (G=2))) (
 (z.2.ldN a.next 0 3).bind fun H=>
 (z.2.stV ((st.ro st.next).next) 0 3 H).bind fun I=>
 (I.rdN ((st.ro st.next).next) 0 3).bind fun J=>
 cond (flat3 (.tuple #[J,.int .i64 (-3)])) (some (.tuple #[J,.int .i64 (-3)],st.adv I.next)) none) (
 let K:Int:=IntKind.wrap .i64 (i'+2)
 (zar l' K 5).bind fun L=>
 ((z.2.ld L.1 (L.2+2)).bind (asI .i64)).bind fun M=>
 (z.2.st a.next 1 [.int .i64 M]).bind fun N=>
 cond (!x) (
 ((N.ld a.next 1).bind (asI .i64)).bind fun O=>
 let P:Int:=IntKind.wrap .i64 (0-O)
 (N.st a.next 1 [.int .i64 P]).bind fun Q=>
 (Q.ldN a.next 0 3).bind fun R=>
 (Q.stV ((st.ro st.next).next) 0 3 R).bind fun S=>
 (S.rdN ((st.ro st.next).next) 0 3).bind fun T=>
 cond (flat3 (.tuple #[T,.int .i64 3])) (some (.tuple #[T,.int .i64 3],st.adv S.next)) none) (
 (N.ldN a.next 0 3).bind fun U=>
 (N.stV ((st.ro st.next).next) 0 3 U).bind fun V=>
 (V.rdN ((st.ro st.next).next) 0 3).bind fun W=>
 cond (flat3 (.tuple #[W,.int .i64 3])) (some (.tuple #[W,.int .i64 3],st.adv V.next)) none)))) (
 let X:Int:=IntKind.wrap .i64 (i'+2)
 (zar l' X 5).bind fun Y=>
 ((w.2.ld Y.1 Y.2).bind (asI .i64)).bind fun Z=>
 cond (!(decide (Z=2))) (
 (w.2.ldN a.next 0 3).bind fun aA=>
 (w.2.stV ((st.ro st.next).next) 0 3 aA).bind fun aB=>
 (aB.rdN ((st.ro st.next).next) 0 3).bind fun aC=>
 cond (flat3 (.tuple #[aC,.int .i64 (-3)])) (some (.tuple #[aC,.int .i64 (-3)],st.adv aB.next)) none) (
 let aD:Int:=IntKind.wrap .i64 (i'+2)
 (zar l' aD 5).bind fun aE=>
 ((w.2.ld aE.1 (aE.2+2)).bind (asI .i64)).bind fun aF=>
 (w.2.st a.next 1 [.int .i64 aF]).bind fun aG=>
 cond (!x) (
 ((aG.ld a.next 1).bind (asI .i64)).bind fun aH=>
 let aI:Int:=IntKind.wrap .i64 (0-aH)
 (aG.st a.next 1 [.int .i64 aI]).bind fun aJ=>
 (aJ.ldN a.next 0 3).bind fun aK=>
 (aJ.stV ((st.ro st.next).next) 0 3 aK).bind fun aL=>
 (aL.rdN ((st.ro st.next).next) 0 3).bind fun aM=>
 cond (flat3 (.tuple #[aM,.int .i64 3])) (some (.tuple #[aM,.int .i64 3],st.adv aL.next)) none) (
 (aG.ldN a.next 0 3).bind fun aN=>
 (aG.stV ((st.ro st.next).next) 0 3 aN).bind fun aO=>
 (aO.rdN ((st.ro st.next).next) 0 3).bind fun aP=>
 cond (flat3 (.tuple #[aP,.int .i64 3])) (some (.tuple #[aP,.int .i64 3],st.adv aO.next)) none)))))
noncomputable abbrev ziY:zac:=lS Tryz.prog Lk0 Tryz.f82 zaG
theorem ziZ:Lk0.func 82=some (82,Tryz.f82):=by kernel_rfl
theorem zbl [Sym] (l':Value) (i':Int) (st:SS) {r:Value×SS} (h:zbn cc ziY l' i' st=some r):cc 82 [l',.int .i64 i'] st=some r:=
 zah (li:=zaG) zai zaq ziZ rfl (fun _=>rfl) (.trans (by kernel_rfl) h)
def zeK:LoopI:=⟨[(0,.any),(2,.any),(4,.any),(5,.int .i64),(8,.bool),(90,.any),(91,.int .i64),(92,.int .i64)],[(.exit 4,[(0,.any),(2,.any),(4,.any),(5,.int .i64),(8,.bool)])]⟩
def zeL:LoopI:=⟨[(0,.any),(2,.any),(4,.any),(5,.int .i64)],[(.exit 2,[(2,.any),(4,.any)]),(.ret,[(2,.any),(3,.int .i64)])]⟩
def zeM:LoopI:=⟨[(0,.any),(2,.any),(4,.any),(5,.int .i64)],[(.exit 0,[(2,.any),(4,.any)]),(.ret,[(2,.any),(3,.int .i64)])]⟩
def zfB (n:Nat):Option LoopI:=cond (Nat.beq n 11) (some zeM) (cond (Nat.beq n 18) (some zeL) (cond (Nat.beq n 21) (some zeK) (none)))
noncomputable def zdn (cf:zak) (lf:zac) (l':Value) (st:SS):Option (Value×SS):=
 let a:SS:=st.new (.cells [.int .i64 0,.string ⟨#[]⟩,.string ⟨#[]⟩,.slice none 0 0,.slice none 0 0] 0)
 (zar l' 0 5).bind fun b=>
 ((a.ld b.1 (b.2+3)).bind (asI .i64)).bind fun c=>
 let d:SS:=a.new (.cells [.int .i64 0,.string ⟨#[]⟩,.string ⟨#[]⟩,.slice none 0 0,.slice none 0 0] 0)
 (d.st a.next 0 [.int .i64 c,.string ⟨#[]⟩,.string ⟨#[]⟩,.slice none 0 0,.slice none 0 0]).bind fun e=>
 (zar l' 0 5).bind fun f=>
 ((e.ld f.1 f.2).bind (asI .i64)).bind fun g=>
 cond (decide (g=1)) (
 (cf 81 [l',.int .i64 1,.int .i64 3,.string ⟨#[58]⟩] e).bind fun h=>
 ((some h.1).bind asB).bind fun i=>
 cond i (
 (zar l' 0 5).bind fun j=>
 ((h.2.ld j.1 (j.2+1)).bind asS).bind fun k=>
 (h.2.st a.next 1 [.string k]).bind fun l=>
 (cf 81 [l',.int .i64 2,.int .i64 3,.string ⟨#[46]⟩] l).bind fun m=>
 ((some m.1).bind asB).bind fun n=>
 cond n (
 (zar l' 3 5).bind fun o=>
 ((m.2.ld o.1 o.2).bind (asI .i64)).bind fun p=>
 cond (!(decide (p=1))) (
 (m.2.ldN a.next 0 5).bind fun q=>
 (m.2.stV st.next 0 5 q).bind fun r=>
 (r.rdN st.next 0 5).bind fun s=>
 some (.tuple #[s,.int .i64 3],r)) (
 (zar l' 3 5).bind fun t=>
 ((m.2.ld t.1 (t.2+1)).bind asS).bind fun u=>
 (m.2.st a.next 2 [.string u]).bind fun v=>
 (lf 11 [l',ptr st.next 0,ptr a.next 0,.int .i64 4] v).bind fun w=>
 cond (Nat.beq w.1 0) (
 (w.2.1[0]?).bind fun x=>
 (w.2.1[1]?).bind fun y=>
 (addr? y).bind fun z=>
 (w.2.2.ldN z.1 z.2 5).bind fun A=>
 (addr? x).bind fun B=>
 (w.2.2.stV B.1 B.2 5 A).bind fun C=>
 (addr? x).bind fun D=>
 (C.rdN D.1 D.2 5).bind fun E=>
 some (.tuple #[E,.int .i64 (-1)],C)) (
 (w.2.1[0]?).bind fun F=>
 ((w.2.1[1]?).bind (asI .i64)).bind fun G=>
 (addr? F).bind fun H=>
 (w.2.2.rdN H.1 H.2 5).bind fun I=>
 some (.tuple #[I,.int .i64 G],w.2.2)))) (
 (lf 18 [l',ptr st.next 0,ptr a.next 0,.int .i64 2] m.2).bind fun J=>
 cond (Nat.beq J.1 0) (
 (J.2.1[0]?).bind fun K=>
 (J.2.1[1]?).bind fun L=>
 (addr? L).bind fun M=>
 (J.2.2.ldN M.1 M.2 5).bind fun N=>
 (addr? K).bind fun O=>
 (J.2.2.stV O.1 O.2 5 N).bind fun P=>
 (addr? K).bind fun Q=>
 (P.rdN Q.1 Q.2 5).bind fun R=>
 some (.tuple #[R,.int .i64 (-1)],P)) (
 (J.2.1[0]?).bind fun S=>
 ((J.2.1[1]?).bind (asI .i64)).bind fun T=>
 (addr? S).bind fun U=>
 (J.2.2.rdN U.1 U.2 5).bind fun V=>
 some (.tuple #[V,.int .i64 T],J.2.2)))) (
 (cf 81 [l',.int .i64 0,.int .i64 3,.string ⟨#[46]⟩] h.2).bind fun W=>
 ((some W.1).bind asB).bind fun X=>
 cond X (
 (zar l' 1 5).bind fun Y=>
 ((W.2.ld Y.1 Y.2).bind (asI .i64)).bind fun Z=>
 cond (!(decide (Z=1))) (
 (W.2.ldN a.next 0 5).bind fun aA=>
 (W.2.stV st.next 0 5 aA).bind fun aB=>
 (aB.rdN st.next 0 5).bind fun aC=>
 some (.tuple #[aC,.int .i64 1],aB)) (
 (zar l' 1 5).bind fun aD=>
 ((W.2.ld aD.1 (aD.2+1)).bind asS).bind fun aE=>
 (W.2.st a.next 2 [.string aE]).bind fun aF=>
 (lf 11 [l',ptr st.next 0,ptr a.next 0,.int .i64 2] aF).bind fun aG=>
 cond (Nat.beq aG.1 0) (
 (aG.2.1[0]?).bind fun aH=>
 (aG.2.1[1]?).bind fun aI=>
 (addr? aI).bind fun aJ=>
 (aG.2.2.ldN aJ.1 aJ.2 5).bind fun aK=>
 (addr? aH).bind fun aL=>
 (aG.2.2.stV aL.1 aL.2 5 aK).bind fun aM=>
 (addr? aH).bind fun aN=>
 (aM.rdN aN.1 aN.2 5).bind fun aO=>
 some (.tuple #[aO,.int .i64 (-1)],aM)) (
 (aG.2.1[0]?).bind fun aP=>
 ((aG.2.1[1]?).bind (asI .i64)).bind fun aQ=>
 (addr? aP).bind fun aR=>
 (aG.2.2.rdN aR.1 aR.2 5).bind fun aS=>
 some (.tuple #[aS,.int .i64 aQ],aG.2.2)))) (
 (lf 18 [l',ptr st.next 0,ptr a.next 0,.int .i64 0] W.2).bind fun aT=>
 cond (Nat.beq aT.1 0) (
 (aT.2.1[0]?).bind fun aU=>
 (aT.2.1[1]?).bind fun aV=>
 (addr? aV).bind fun aW=>
 (aT.2.2.ldN aW.1 aW.2 5).bind fun aX=>
 (addr? aU).bind fun aY=>
 (aT.2.2.stV aY.1 aY.2 5 aX).bind fun aZ=>
 (addr? aU).bind fun bA=>
 (aZ.rdN bA.1 bA.2 5).bind fun bB=>
 some (.tuple #[bB,.int .i64 (-1)],aZ)) (
 (aT.2.1[0]?).bind fun bC=>
 ((aT.2.1[1]?).bind (asI .i64)).bind fun bD=>
 (addr? bC).bind fun bE=>
 (aT.2.2.rdN bE.1 bE.2 5).bind fun bF=>
 some (.tuple #[bF,.int .i64 bD],aT.2.2))))) (
 (cf 81 [l',.int .i64 0,.int .i64 3,.string ⟨#[46]⟩] e).bind fun bG=>
 ((some bG.1).bind asB).bind fun bH=>
 cond bH (
 (zar l' 1 5).bind fun bI=>
 ((bG.2.ld bI.1 bI.2).bind (asI .i64)).bind fun bJ=>
 cond (!(decide (bJ=1))) (
 (bG.2.ldN a.next 0 5).bind fun bK=>
 (bG.2.stV st.next 0 5 bK).bind fun bL=>
 (bL.rdN st.next 0 5).bind fun bM=>
 some (.tuple #[bM,.int .i64 1],bL)) (
 (zar l' 1 5).bind fun bN=>
 ((bG.2.ld bN.1 (bN.2+1)).bind asS).bind fun bO=>
 (bG.2.st a.next 2 [.string bO]).bind fun bP=>
 (lf 11 [l',ptr st.next 0,ptr a.next 0,.int .i64 2] bP).bind fun bQ=>
 cond (Nat.beq bQ.1 0) (
 (bQ.2.1[0]?).bind fun bR=>
 (bQ.2.1[1]?).bind fun bS=>
 (addr? bS).bind fun bT=>
 (bQ.2.2.ldN bT.1 bT.2 5).bind fun bU=>
 (addr? bR).bind fun bV=>
 (bQ.2.2.stV bV.1 bV.2 5 bU).bind fun bW=>
 (addr? bR).bind fun bX=>
 (bW.rdN bX.1 bX.2 5).bind fun bY=>
 some (.tuple #[bY,.int .i64 (-1)],bW)) (
 (bQ.2.1[0]?).bind fun bZ=>
 ((bQ.2.1[1]?).bind (asI .i64)).bind fun cA=>
 (addr? bZ).bind fun cB=>
 (bQ.2.2.rdN cB.1 cB.2 5).bind fun cC=>
 some (.tuple #[cC,.int .i64 cA],bQ.2.2)))) (
 (lf 18 [l',ptr st.next 0,ptr a.next 0,.int .i64 0] bG.2).bind fun cD=>
 cond (Nat.beq cD.1 0) (
 (cD.2.1[0]?).bind fun cE=>
 (cD.2.1[1]?).bind fun cF=>
 (addr? cF).bind fun cG=>
 (cD.2.2.ldN cG.1 cG.2 5).bind fun cH=>
 (addr? cE).bind fun cI=>
 (cD.2.2.stV cI.1 cI.2 5 cH).bind fun cJ=>
 (addr? cE).bind fun cK=>
 (cJ.rdN cK.1 cK.2 5).bind fun cL=>
 some (.tuple #[cL,.int .i64 (-1)],cJ)) (
 (cD.2.1[0]?).bind fun cM=>
 ((cD.2.1[1]?).bind (asI .i64)).bind fun cN=>
 (addr? cM).bind fun cO=>
 (cD.2.2.rdN cO.1 cO.2 5).bind fun cP=>
 some (.tuple #[cP,.int .i64 cN],cD.2.2))))
noncomputable abbrev zan:zac:=lS Tryz.prog Lk0 Tryz.f52 zfB
theorem zi0:Lk0.func 52=some (52,Tryz.f52):=by kernel_rfl
theorem zdG [Sym] (l':Value) (st:SS) {r:Value×SS} (h:zdn cc zan l' st=some r):cc 52 [l'] st=some r:=
 zah (li:=zfB) zai zaq zi0 rfl (fun _=>rfl) (.trans (by kernel_rfl) h)
noncomputable def zcw (cf:zak) (lf:zac) (l':Value) (t2':Value) (x':Value) (i':Int) (st:SS):Option (Nat×List Value×SS):=
 (zar l' i' 5).bind fun a=>
 ((st.ld a.1 a.2).bind (asI .i64)).bind fun b=>
 cond (!(decide (b=0))) (
 (cf 82 [l',.int .i64 i'] st).bind fun c=>
 (zal c.1 0).bind fun d=>
 ((zal c.1 1).bind (asI .i64)).bind fun e=>
 let f:SS:=c.2.new (.cells [.string ⟨#[]⟩,.int .i64 0,.int .i64 0] 0)
 (f.stV c.2.next 0 3 d).bind fun g=>
 cond (decide (e<0)) (
 (addr? x').bind fun h=>
 (g.ldN h.1 h.2 5).bind fun i=>
 let j:Int:=IntKind.wrap .i64 (i'-e)
 let k:Int:=IntKind.wrap .i64 (j-1)
 (addr? t2').bind fun l=>
 (g.stV l.1 l.2 5 i).bind fun m=>
 some (1,[t2',.int .i64 k],m)) (
 (addr? x').bind fun n=>
 (g.ld n.1 (n.2+3)).bind fun o=>
 (g.ldN c.2.next 0 3).bind fun p=>
 (zaE p 3).bind fun q=>
 let r:SS:=g.new (.cells (q++([])) 3)
 (r.app 3 32 o (.slice (some ⟨g.next,0,none⟩) 1 1)).bind fun s=>
 (addr? x').bind fun t=>
 (s.2.stV t.1 (t.2+3) 1 s.1).bind fun u=>
 let v:Int:=IntKind.wrap .i64 (i'+e)
 lf 11 [l',t2',x',.int .i64 v] u)) (
 some (0,[t2',x'],st))
theorem zcR [Sym] (l':Value) (t2':Value) (x':Value) (i':Int) (st:SS) {r:Nat×List Value×SS} (h:zcw cc zan l' t2' x' i' st=some r):zan 11 [l',t2',x',.int .i64 i'] st=some r:=
 zax zai zaq (key:=11) (I:=zeM) rfl (by kernel_rfl) (by kernel_rfl) rfl rfl (.trans (by kernel_rfl) h)
noncomputable def zdy (cf:zak) (lf:zac) (l':Value) (t2':Value) (x':Value) (i':Int) (st:SS):Option (Nat×List Value×SS):=
 (zar l' i' 5).bind fun a=>
 ((st.ld a.1 a.2).bind (asI .i64)).bind fun b=>
 cond (!(decide (b=0))) (
 (addr? x').bind fun c=>
 (st.ld c.1 (c.2+4)).bind fun d=>
 ((lenV d).bind (asI .i64)).bind fun e=>
 (lf 21 [l',t2',x',.int .i64 i',.bool false,d,.int .i64 e,.int .i64 0] st).bind fun f=>
 (f.2.1[0]?).bind fun g=>
 (f.2.1[1]?).bind fun h=>
 (f.2.1[2]?).bind fun i=>
 ((f.2.1[3]?).bind (asI .i64)).bind fun j=>
 ((f.2.1[4]?).bind asB).bind fun k=>
 (zar g j 5).bind fun l=>
 ((f.2.2.ld l.1 l.2).bind (asI .i64)).bind fun m=>
 cond (!(decide (m=1))) (
 (addr? i).bind fun n=>
 (f.2.2.ldN n.1 n.2 5).bind fun o=>
 (addr? h).bind fun p=>
 (f.2.2.stV p.1 p.2 5 o).bind fun q=>
 some (1,[h,.int .i64 j],q)) (
 cond k (
 (addr? i).bind fun r=>
 (f.2.2.ldN r.1 r.2 5).bind fun s=>
 (addr? h).bind fun t=>
 (f.2.2.stV t.1 t.2 5 s).bind fun u=>
 some (1,[h,.int .i64 j],u)) (
 let v:Int:=IntKind.wrap .i64 (j+1)
 (cf 81 [g,.int .i64 v,.int .i64 3,.string ⟨#[61]⟩] f.2.2).bind fun w=>
 ((some w.1).bind asB).bind fun x=>
 cond (!x) (
 (addr? i).bind fun y=>
 (w.2.ldN y.1 y.2 5).bind fun z=>
 let A:Int:=IntKind.wrap .i64 (j+1)
 (addr? h).bind fun B=>
 (w.2.stV B.1 B.2 5 z).bind fun C=>
 some (1,[h,.int .i64 A],C)) (
 let D:Int:=IntKind.wrap .i64 (j+2)
 (cf 82 [g,.int .i64 D] w.2).bind fun E=>
 (zal E.1 0).bind fun F=>
 ((zal E.1 1).bind (asI .i64)).bind fun G=>
 let H:SS:=E.2.new (.cells [.string ⟨#[]⟩,.int .i64 0,.int .i64 0] 0)
 (H.stV E.2.next 0 3 F).bind fun I=>
 cond (decide (G<0)) (
 (addr? i).bind fun J=>
 (I.ldN J.1 J.2 5).bind fun K=>
 let L:Int:=IntKind.wrap .i64 (j+2)
 let M:Int:=IntKind.wrap .i64 (L-G)
 let N:Int:=IntKind.wrap .i64 (M-1)
 (addr? h).bind fun O=>
 (I.stV O.1 O.2 5 K).bind fun P=>
 some (1,[h,.int .i64 N],P)) (
 (addr? i).bind fun Q=>
 (I.ld Q.1 (Q.2+4)).bind fun R=>
 (zar g j 5).bind fun S=>
 ((I.ld S.1 (S.2+1)).bind asS).bind fun T=>
 (zar g j 5).bind fun U=>
 ((I.ld U.1 (U.2+4)).bind (asI .i64)).bind fun V=>
 (I.ldN E.2.next 0 3).bind fun W=>
 (zaE W 3).bind fun X=>
 (zaE (.agg ⟨spl [.string T,.int .i64 V,.string ⟨#[]⟩,.int .i64 0,.int .i64 0] 2 X⟩) 5).bind fun Y=>
 let Z:SS:=I.new (.cells (Y++([])) 5)
 (Z.app 5 56 R (.slice (some ⟨I.next,0,none⟩) 1 1)).bind fun aA=>
 (addr? i).bind fun aB=>
 (aA.2.stV aB.1 (aB.2+4) 1 aA.1).bind fun aC=>
 let aD:Int:=IntKind.wrap .i64 (j+2)
 let aE:Int:=IntKind.wrap .i64 (aD+G)
 lf 18 [g,h,i,.int .i64 aE] aC))))) (
 some (0,[t2',x'],st))
theorem zej [Sym] (l':Value) (t2':Value) (x':Value) (i':Int) (st:SS) {r:Nat×List Value×SS} (h:zdy cc zan l' t2' x' i' st=some r):zan 18 [l',t2',x',.int .i64 i'] st=some r:=
 zax zai zaq (key:=18) (I:=zeL) rfl (by kernel_rfl) (by kernel_rfl) rfl rfl (.trans (by kernel_rfl) h)
noncomputable def zcx (cf:zak) (lf:zac) (l':Value) (t2':Value) (x':Value) (i':Int) (known':Bool) (t90':Value) (t91':Int) (t92':Int) (st:SS):Option (Nat×List Value×SS):=
 cond (decide (t92'<t91')) (
 (zar t90' t92' 5).bind fun a=>
 (st.ldN a.1 a.2 5).bind fun b=>
 let c:SS:=st.new (.cells [.string ⟨#[]⟩,.int .i64 0,.string ⟨#[]⟩,.int .i64 0,.int .i64 0] 0)
 (c.stV st.next 0 5 b).bind fun d=>
 cond known' (
 let e:Int:=IntKind.wrap .i64 (t92'+1)
 lf 21 [l',t2',x',.int .i64 i',.bool true,t90',.int .i64 t91',.int .i64 e] d) (
 ((d.ld st.next 0).bind asS).bind fun f=>
 (zar l' i' 5).bind fun g=>
 ((d.ld g.1 (g.2+1)).bind asS).bind fun h=>
 let i:Int:=IntKind.wrap .i64 (t92'+1)
 lf 21 [l',t2',x',.int .i64 i',.bool (eqT f h),t90',.int .i64 t91',.int .i64 i] d)) (
 some (0,[l',t2',x',.int .i64 i',.bool known'],st))
theorem zcS [Sym] (l':Value) (t2':Value) (x':Value) (i':Int) (known':Bool) (t90':Value) (t91':Int) (t92':Int) (st:SS) {r:Nat×List Value×SS} (h:zcx cc zan l' t2' x' i' known' t90' t91' t92' st=some r):zan 21 [l',t2',x',.int .i64 i',.bool known',t90',.int .i64 t91',.int .i64 t92'] st=some r:=
 zax zai zaq (key:=21) (I:=zeK) rfl (by kernel_rfl) (by kernel_rfl) rfl rfl (.trans (by kernel_rfl) h)
def zeN:LoopI:=⟨[(3,.any),(6,.any),(23,.any),(24,.int .i64),(25,.int .i64)],[(.exit 0,[(3,.any),(6,.any)]),(.ret,[(2,.any),(3,.any)])]⟩
def ze7 (n:Nat):Option LoopI:=cond (Nat.beq n 6) (some zeN) (none)
noncomputable def zc4 (cf:zak) (lf:zac) (text':ByteArray) (st:SS):Option (Value×SS):=
 let a:SS:=st.new (.cells [.int .i64 0,.int .i64 0] 0)
 (cf 49 [.string text'] a).bind fun b=>
 (zal b.1 0).bind fun c=>
 (zal b.1 1).bind fun d=>
 let e:SS:=b.2.new (.cells [.int .i64 0,.int .i64 0] 0)
 (e.stV b.2.next 0 2 d).bind fun f=>
 (zbe (ptr b.2.next 0) 2 0 1).bind fun g=>
 ((f.ld g.1 g.2).bind (asI .i64)).bind fun h=>
 cond (decide (0<h)) (
 (f.ldN b.2.next 0 2).bind fun i=>
 (f.stV st.next 0 2 i).bind fun j=>
 (j.rdN st.next 0 2).bind fun k=>
 some (.tuple #[.slice none 0 0,k],j)) (
 (cf 50 [.string text',.int .u8 10] f).bind fun l=>
 ((lenV l.1).bind (asI .i64)).bind fun m=>
 (lf 6 [ptr st.next 0,.slice none 0 0,l.1,.int .i64 m,.int .i64 0] l.2).bind fun n=>
 cond (Nat.beq n.1 0) (
 (n.2.1[0]?).bind fun o=>
 (n.2.1[1]?).bind fun p=>
 (addr? o).bind fun q=>
 (n.2.2.st q.1 q.2 [.int .i64 0,.int .i64 0]).bind fun r=>
 (addr? o).bind fun s=>
 (r.rdN s.1 s.2 2).bind fun t=>
 some (.tuple #[p,t],r)) (
 (n.2.1[0]?).bind fun u=>
 (n.2.1[1]?).bind fun v=>
 (addr? v).bind fun w=>
 (n.2.2.rdN w.1 w.2 2).bind fun x=>
 some (.tuple #[u,x],n.2.2)))
noncomputable abbrev zaS:zac:=lS Tryz.prog Lk0 Tryz.f19 ze7
theorem zir:Lk0.func 19=some (19,Tryz.f19):=by kernel_rfl
theorem zdz [Sym] (text':ByteArray) (st:SS) {r:Value×SS} (h:zc4 cc zaS text' st=some r):cc 19 [.string text'] st=some r:=
 zah (li:=ze7) zai zaq zir rfl (fun _=>rfl) (.trans (by kernel_rfl) h)
noncomputable def zbT (cf:zak) (lf:zac) (t3':Value) (out':Value) (t23':Value) (t24':Int) (t25':Int) (st:SS):Option (Nat×List Value×SS):=
 cond (decide (t25'<t24')) (
 (zar t23' t25' 1).bind fun a=>
 ((st.ld a.1 a.2).bind asS).bind fun b=>
 let c:Int:=IntKind.wrap .i64 (t25'+1)
 (cf 51 [.string b,.int .i64 c] st).bind fun d=>
 (zal d.1 0).bind fun e=>
 ((zal d.1 1).bind (asI .i64)).bind fun f=>
 (cf 52 [e] d.2).bind fun g=>
 (zal g.1 0).bind fun h=>
 ((zal g.1 1).bind (asI .i64)).bind fun i=>
 let j:SS:=g.2.new (.cells [.int .i64 0,.string ⟨#[]⟩,.string ⟨#[]⟩,.slice none 0 0,.slice none 0 0] 0)
 (j.stV g.2.next 0 5 h).bind fun k=>
 cond (decide (0≤i)) (
 let l:Int:=IntKind.wrap .i64 (t25'+1)
 (zar e i 5).bind fun m=>
 ((k.ld m.1 (m.2+4)).bind (asI .i64)).bind fun n=>
 (addr? t3').bind fun o=>
 (k.st o.1 o.2 [.int .i64 l,.int .i64 n]).bind fun p=>
 some (1,[.slice none 0 0,t3'],p)) (
 ((lenV e).bind (asI .i64)).bind fun q=>
 cond (decide (1<q)) (
 (k.ldN g.2.next 0 5).bind fun r=>
 (zaE r 5).bind fun s=>
 let t:SS:=k.new (.cells (s++([])) 5)
 (t.app 5 88 out' (.slice (some ⟨k.next,0,none⟩) 1 1)).bind fun u=>
 let v:Int:=IntKind.wrap .i64 (t25'+1)
 lf 6 [t3',u.1,t23',.int .i64 t24',.int .i64 v] u.2) (
 let w:Int:=IntKind.wrap .i64 (t25'+1)
 lf 6 [t3',out',t23',.int .i64 t24',.int .i64 w] k))) (
 some (0,[t3',out'],st))
theorem zb3 [Sym] (t3':Value) (out':Value) (t23':Value) (t24':Int) (t25':Int) (st:SS) {r:Nat×List Value×SS} (h:zbT cc zaS t3' out' t23' t24' t25' st=some r):zaS 6 [t3',out',t23',.int .i64 t24',.int .i64 t25'] st=some r:=
 zax zai zaq (key:=6) (I:=zeN) rfl (by kernel_rfl) (by kernel_rfl) rfl rfl (.trans (by kernel_rfl) h)
end Go.Proofs.YtifploedaacedaaGreatDoorE
namespace Go.Proofs.YtifploedaacedaaGreatDoorE
open Go Go.E Go.Proofs
structure RT (st:SS) (v:Value) (us:List (Nat×Tok)) (hi:Nat):Prop where
 rd:Rd st v (rowsL us) 5 us.length
 vb:∀ j k l q,v=.slice (some ⟨j,k,none⟩) l q→j<hi
 sz:us.length≤1099511627776/8
section
variable {S : List Nat} {st st' : SS} {v : Value} {us : List (Nat × Tok)} {hi B : Nat}
theorem RT.keepB (h:RT st v us hi) (k:Keep B S st st') (hB:hi≤B) (hS:∀ j,j∈S→hi≤j):RT st' v us hi:=by
 refine ⟨?_,h.vb,h.sz⟩
 obtain ⟨h1,h2⟩:=h.rd
 refine ⟨h1,h2.imp id ?_⟩
 rintro ⟨j,cap,e,⟨z',hm⟩,hj⟩
 have hjb:=h.vb j 0 _ cap e
 exact ⟨j,cap,e,⟨z',(k.keep j (by omega) (fun hx=>by have:=hS j hx;omega)).trans hm⟩,zll hj k.next⟩
theorem RT.ext (h:RT st v us hi) (x:Ext st st'):RT st' v us hi:=⟨h.rd.ext x,h.vb,h.sz⟩
theorem RT.at' (h:RT st v us hi) {i:Nat} {t:Nat×Tok} (ht:us[i]?=some t):∃ p,zar v (i:Int) 5=some p∧∀ s:SS,RT s v us hi→
  s.ld p.1 p.2=some (.int .i64 t.2.kd)∧s.ld p.1 (p.2+1)=some (.string (mkS t.2.tx))∧s.ld p.1 (p.2+2)=some (.int .i64 t.2.nm)∧s.ld p.1 (p.2+3)=some (.int .i64 t.1)∧s.ld p.1 (p.2+4)=some (.int .i64 t.2.col):=by
 have hlt:(i:Int)<(us.length:Int):=by have:=(List.getElem?_eq_some_iff.1 ht).1;omega
 obtain ⟨p,a1,_,_⟩:=h.rd.load (j:=(i:Int)) (by omega) hlt (zhX us i t ht) rfl
 refine ⟨p,a1,fun s hs=>?_⟩
 obtain ⟨q,b1,_,b3⟩:=hs.rd.load (j:=(i:Int)) (by omega) hlt (zhX us i t ht) rfl
 rw [a1] at b1
 cases b1
 exact ⟨b3 0 (by omega),b3 1 (by omega),b3 2 (by omega),b3 3 (by omega),b3 4 (by omega)⟩
theorem RT.len (h:RT st v us hi):(lenV v).bind (asI .i64)=some (us.length:Int):=by rw [h.rd.len];rfl
end
theorem zkM [Sym] {st:SS} {v:Value} {us:List (Nat×Tok)} {hi i:Nat} (h:RT st v us hi) {t:Nat×Tok} (ht:us[i]?=some t) (sg:List UInt8):cc 81 [v,.int .i64 i,.int .i64 3,.string (mkS sg)] st=some (.bool (zaA t.2 sg),st):=by
 obtain ⟨p,e,hp⟩:=h.at' ht
 obtain ⟨k0,k1,_⟩:=hp (st.ro st.next) ⟨h.rd,h.vb,h.sz⟩
 have hlt:(i:Int)<(us.length:Int):=by have:=(List.getElem?_eq_some_iff.1 ht).1;omega
 refine zj5 v _ _ _ st ?_
 unfold zaA
 by_cases hk:t.2.kd=3
 ·have hk':(t.2.kd:Int)=3:=by omega
  rw [zdt hk]
  simp only [zfl,h.len,zob,zdt hlt,zct,e,k0,k1,zaa,zab,zdt hk',zec,Bool.true_and]
  rfl
 ·have hk':¬ (t.2.kd:Int)=3:=by omega
  rw [zdf hk]
  simp only [zfl,h.len,zob,zdt hlt,zct,e,k0,zaa,zdf hk',zcf,Bool.false_and]
  rfl
theorem LineAt.isz {us:List (Nat×Tok)} {i ln:Nat} {l:List Tok} (hl:LineAt us i ln l):i<us.length:=by
 obtain ⟨t,r,rfl⟩:=hl.lin.ne
 exact (List.getElem?_eq_some_iff.1 hl.head).1
theorem zey (w:Val) (n:Int):flat3 (.tuple #[.agg (valRow w).toArray,.int .i64 n])=true:=by rfl
theorem wrapN {n:Int} (h0: -1000000≤n) (h1:n≤2199023255552):IntKind.wrap .i64 n=n:=wrap64 (by omega) (by omega)
def TakR (v:Value) (i:Nat) (st:SS) (r:Option (Value×SS)):Except Nat (Val×Nat)→Prop
 | .ok (x,n)=>∃ m,st.next≤m∧r=some (.tuple #[.agg (valRow x).toArray,.int .i64 n],st.adv m)
 | .error o=>∃ m w,st.next≤m∧r=some (.tuple #[.agg (valRow w).toArray,.int .i64 (-((o:Int)+1))],st.adv m)
theorem zqe [Sym] {st:SS} {v:Value} {us:List (Nat×Tok)} {hi i ln:Nat} {l:List Tok} (h:RT st v us hi) (hhi:hi≤st.next) (hl:LineAt us i ln l):TakR v i st (cc 82 [v,.int .i64 i] st) (zdB l):=by
 obtain ⟨t,r,rfl⟩:=hl.lin.ne
 have hisz:i≤1099511627776:=by have:=hl.isz;have:=h.sz;omega
 have h0:RT (st.ro st.next) v us hi:=⟨h.rd,h.vb,h.sz⟩
 have a1:At ((st.ro st.next).new (.cells Z3 0)) st.next Z3:=At.new (st:=st.ro st.next) (zlr _) Z3
 have x1:Ext (st.ro st.next) ((st.ro st.next).new (.cells Z3 0)):=(Ext.refl _).new _
 obtain ⟨p,e,hp⟩:=h.at' hl.head
 obtain ⟨s5,e5,a5,x5,n5⟩:=ziK (st:=(st.ro st.next).new (.cells Z3 0)) (by simp) (r:=Z3) (row:=valRow ⟨[],0,t.col⟩) rfl rfl
 have e5':(((st.ro st.next).new (.cells Z3 0)).new (.cells Z3 0)).st ((st.ro st.next).new (.cells Z3 0)).next 0 [.string ⟨#[]⟩,.int .i64 0,.int .i64 t.col]=some s5:=e5
 have b5:=a1.ext x5
 have h5:=(h0.ext x1).ext x5
 obtain ⟨_,_,_,_,q4⟩:=hp _ (h0.ext x1)
 obtain ⟨k0,k1,k2,_,_⟩:=hp _ h5
 have hn5:s5.next=st.next+2:=by rw [n5];rfl
 have hj:((st.ro st.next).new (.cells Z3 0)).next=st.next+1:=rfl
 have nx:∀ {s:SS},s5.next≤s.next→st.next≤s.next:=fun hs=>by omega
 rw [zfX]
 by_cases h2:t.kd=2
 ·rw [if_pos h2]
  have h2':(t.kd:Int)=2:=by omega
  obtain ⟨s10,e10,a10,m10,n10⟩:=a5.sto (k:=1) (vs:=[.int .i64 t.nm]) (row':=valRow ⟨[],t.nm,t.col⟩) rfl rfl
  obtain ⟨s12,f1,f2,f3,f4,_⟩:=za9 (n:=3) (b5.mod m10 (by simp)) rfl a10 rfl rfl
  refine ⟨s12.next,nx (by have:=f4.next;omega),zbl v _ st ?_⟩
  simp only [zbn,SS.ro_next,e,zob,q4,zaa,e5',k0,zdt h2',zct,k2,e10,f1,f2,f3,zey]
  rfl
 ·rw [if_neg h2]
  have h2':¬ (t.kd:Int)=2:=by omega
  by_cases h1:t.kd=1
  case neg=>
   rw [if_neg h1]
   have h1':¬ (t.kd:Int)=1:=by omega
   obtain ⟨s17,f1,f2,f3,f4,_⟩:=za9 (n:=3) b5 rfl a5 rfl rfl
   have hfl:=zey ⟨[],0,t.col⟩ (-1)
   refine ⟨s17.next,⟨[],0,t.col⟩,nx (by have:=f4.next;omega),zbl v _ st ?_⟩
   simp only [zbn,SS.ro_next,e,zob,q4,zaa,e5',k0,zdf h2',zcf,zdf h1',znf,zct,f1,f2,f3,hfl]
   rfl
  rw [if_pos h1]
  have h1':(t.kd:Int)=1:=by omega
  have hl1:=hl.tail (by omega)
  obtain ⟨s,u,rfl⟩:=hl1.lin.ne
  obtain ⟨s21,e21,a21,m21,n21⟩:=a5.sto (k:=0) (vs:=[.string (mkS t.tx)]) (row':=valRow ⟨t.tx,0,t.col⟩) rfl rfl
  have b21:=b5.mod m21 (by simp)
  have h21:RT s21 v us hi:=h5.keepB (m21.keepB (zlr _)) (by omega) (by simp;omega)
  have hw1:=za6 hisz
  have hw2:IntKind.wrap .i64 ((i:Int)+2)=((i+2:Nat):Int):=zmM hisz (k:=2) (by omega)
  have c1:=zkM h21 hl1.head [43]
  have c1':cc 81 [v,.int .i64 ((i+1:Nat):Int),.int .i64 3,.string ⟨#[43]⟩] s21=some (.bool (zaA s [43]),s21):=c1
  simp only
  by_cases hpl:zaA s [43]=true
  ·rw [hpl] at c1'
   rw [if_pos hpl]
   have hl2:=hl1.tail (by have:=zbN hpl;omega)
   obtain ⟨w,z,rfl⟩:=hl2.lin.ne
   obtain ⟨p2,g2,hp2⟩:=h.at' hl2.head
   have g2':zar v ((i+2:Nat):Int) 5=some p2:=g2
   obtain ⟨w0,_,w2,_⟩:=hp2 s21 h21
   simp only
   by_cases hw:w.kd=2
   ·rw [if_pos hw]
    have hw':(w.kd:Int)=2:=by omega
    obtain ⟨s59,e59,a59,m59,n59⟩:=a21.sto (k:=1) (vs:=[.int .i64 w.nm]) (row':=valRow ⟨t.tx,w.nm,t.col⟩) rfl rfl
    obtain ⟨s67,f1,f2,f3,f4,_⟩:=za9 (n:=3) (b21.mod m59 (by simp)) rfl a59 rfl rfl
    have hfl:=zey ⟨t.tx,w.nm,t.col⟩ 3
    refine ⟨s67.next,nx (by have:=f4.next;omega),zbl v _ st ?_⟩
    simp only [zbn,SS.ro_next,e,zob,q4,zaa,zab,e5',k0,k1,zdf h2',zcf,zdt h1',znt,e21,hw1,c1',zaf,hw2,g2',w0,zdt hw',w2,e59,f1,f2,f3,hfl,zct]
    rfl
   ·rw [if_neg hw]
    have hw':¬ (w.kd:Int)=2:=by omega
    obtain ⟨s54,f1,f2,f3,f4,_⟩:=za9 (n:=3) b21 rfl a21 rfl rfl
    have hfl:=zey ⟨t.tx,0,t.col⟩ (-3)
    refine ⟨s54.next,⟨t.tx,0,t.col⟩,nx (by have:=f4.next;omega),zbl v _ st ?_⟩
    simp only [zbn,SS.ro_next,e,zob,q4,zaa,zab,e5',k0,k1,zdf h2',zcf,zdt h1',znt,e21,hw1,c1',zaf,hw2,g2',w0,zdf hw',znf,f1,f2,f3,hfl,zct]
    rfl
  ·have hpl':zaA s [43]=false:=Bool.eq_false_iff.2 hpl
   rw [hpl'] at c1'
   rw [if_neg hpl]
   have c2:=zkM h21 hl1.head [45]
   have c2':cc 81 [v,.int .i64 ((i+1:Nat):Int),.int .i64 3,.string ⟨#[45]⟩] s21=some (.bool (zaA s [45]),s21):=c2
   by_cases hm:zaA s [45]=true
   ·rw [hm] at c2'
    rw [if_pos hm]
    have hl2:=hl1.tail (by have:=zbN hm;omega)
    obtain ⟨w,z,rfl⟩:=hl2.lin.ne
    obtain ⟨p2,g2,hp2⟩:=h.at' hl2.head
    have g2':zar v ((i+2:Nat):Int) 5=some p2:=g2
    obtain ⟨w0,_,w2,_⟩:=hp2 s21 h21
    simp only
    by_cases hw:w.kd=2
    ·rw [if_pos hw]
     have hw':(w.kd:Int)=2:=by omega
     obtain ⟨s40,e40,a40,m40,n40⟩:=a21.sto (k:=1) (vs:=[.int .i64 w.nm]) (row':=valRow ⟨t.tx,w.nm,t.col⟩) rfl rfl
     have l41:s40.ld ((st.ro st.next).new (.cells Z3 0)).next 1=some (.int .i64 w.nm):=a40.ld
     obtain ⟨s43,e43,a43,m43,n43⟩:=a40.sto (k:=1) (vs:=[.int .i64 (-w.nm)]) (row':=valRow ⟨t.tx, -w.nm,t.col⟩) rfl rfl
     obtain ⟨s45,f1,f2,f3,f4,_⟩:=za9 (n:=3) ((b21.mod m40 (by simp)).mod m43 (by simp)) rfl a43 rfl rfl
     have hneg:=zqc hl2.tok.nm0 hl2.tok.nm1
     have hfl:=zey ⟨t.tx, -w.nm,t.col⟩ 3
     refine ⟨s45.next,nx (by have:=f4.next;omega),zbl v _ st ?_⟩
     simp only [zbn,SS.ro_next,e,zob,q4,zaa,zab,e5',k0,k1,zdf h2',zcf,zdt h1',znt,e21,hw1,c1',zaf,znf,zct,c2',hw2,g2',w0,zdt hw',w2,e40,l41,hneg,e43,f1,f2,f3,hfl]
     rfl
    ·rw [if_neg hw]
     have hw':¬ (w.kd:Int)=2:=by omega
     obtain ⟨s54,f1,f2,f3,f4,_⟩:=za9 (n:=3) b21 rfl a21 rfl rfl
     have hfl:=zey ⟨t.tx,0,t.col⟩ (-3)
     refine ⟨s54.next,⟨t.tx,0,t.col⟩,nx (by have:=f4.next;omega),zbl v _ st ?_⟩
     simp only [zbn,SS.ro_next,e,zob,q4,zaa,zab,e5',k0,k1,zdf h2',zcf,zdt h1',znt,e21,hw1,c1',zaf,znf,zct,c2',hw2,g2',w0,zdf hw',f1,f2,f3,hfl]
     rfl
   ·have hm':zaA s [45]=false:=Bool.eq_false_iff.2 hm
    rw [hm'] at c2'
    rw [if_neg hm]
    obtain ⟨s54,f1,f2,f3,f4,_⟩:=za9 (n:=3) b21 rfl a21 rfl rfl
    have hfl:=zey ⟨t.tx,0,t.col⟩ 1
    refine ⟨s54.next,nx (by have:=f4.next;omega),zbl v _ st ?_⟩
    simp only [zbn,SS.ro_next,e,zob,q4,zaa,zab,e5',k0,k1,zdf h2',zcf,zdt h1',znt,e21,hw1,c1',zaf,znf,zct,c2',f1,f2,f3,hfl]
    rfl
def RArgsR (B lb j2:Nat) (w0 w1 w2 w4 v:Value) (i:Nat) (vs:List Val) (st:SS) (r:Option (Nat×List Value×SS)):Except Nat (List Val)→Prop
 | .ok qs=>∃ st' av',r=some (0,[ptr j2 0,ptr lb 0],st')∧Keep B [lb] st st'∧At st' lb [w0,w1,w2,av',w4]∧Own B st' av' (rowsF valRow (vs++qs)) 3 (vs++qs).length
 | .error o=>∃ st' row,r=some (1,[ptr j2 0,.int .i64 ((i+o:Nat):Int)],st')∧Keep B [lb,j2] st st'∧At st' j2 row∧row.length=5∧row.all one=true
theorem zqZ [Sym] {ln lb B j2 hi:Nat} {v w0 w1 w2 w4:Value} {us:List (Nat×Tok)} (hhj:hi≤j2) (hjl:j2<lb) (hlB:lb<B) (hw:one w0=true∧one w1=true∧one w2=true∧one w4=true):∀ (k i:Nat) (l:List Tok) (vs:List Val) (av:Value) (st:SS),l.length≤k→vs.length+k≤1099511627776/8→st.lim≤st.next→RT st v us hi→LineAt us i ln l→
  At st lb [w0,w1,w2,av,w4]→(∃ r2,At st j2 r2∧r2.length=5)→B≤st.next→Own B st av (rowsF valRow vs) 3 vs.length→
  RArgsR B lb j2 w0 w1 w2 w4 v i vs st (zan 11 [v,ptr j2 0,ptr lb 0,.int .i64 i] st) (zcO k l):=by
 intro k
 induction k with
 | zero=>
   intro i l vs av st hk _ _ h hl
   obtain ⟨t,r,rfl⟩:=hl.lin.ne
   simp at hk
 | succ k ih=>
   intro i l vs av st hk hvs hll h hl ha hj2 hB ho
   obtain ⟨t,r,rfl⟩:=hl.lin.ne
   obtain ⟨p,e,hp⟩:=h.at' hl.head
   obtain ⟨k0,_⟩:=hp st h
   have hlim:st.lim≤B:=by have:=ha.2.2;omega
   have hisz:i≤1099511627776:=by have:=hl.isz;have:=h.sz;omega
   unfold zcO
   by_cases h0:t.kd=0
   ·rw [if_pos h0]
    have hr:=hl.lin.last h0
    subst hr
    have h0':(t.kd:Int)=0:=by omega
    refine ⟨st,av,zcR v _ _ _ st ?_,.refl _,ha,by simpa using ho⟩
    simp only [zcw,e,zob,k0,zaa,zdt h0',znt,zcf]
   ·rw [if_neg h0]
    have h0':¬ (t.kd:Int)=0:=by omega
    have hp:=zqe h (by omega) hl
    have hlin:=zh4 hl.lin
    cases hx:zdB (t::r) with
    | error o=>
      rw [hx] at hp hlin
      obtain ⟨m,w,hm,c3⟩:=hp
      have x3:Ext st (st.adv m):=.advR st hm
      obtain ⟨s7,e7,a7,x7,_⟩:=zaQ (st:=st.adv m) (x3.ll hll) (r:=Z3) (zaJ (valRow w)) (n:=3) rfl rfl rfl
      have x07:=x3.trans x7
      obtain ⟨r2,a2,l2⟩:=hj2
      have la7:=ha.ext x07
      obtain ⟨s8,f1,f2,f3,f4,f5⟩:=za9 (n:=5) (a2.ext x07) l2 la7 rfl (by simp [hw,ho.cell.2])
      have hneg: -((o:Int)+1)<0:=by omega
      have hw1:IntKind.wrap .i64 ((i:Int)- -((o:Int)+1))=(i:Int)+o+1:=by
       have:=hl.isz;have:=h.sz
       simp only at hlin
       have:o<us.length:=by
        obtain ⟨rest,hr⟩:=hl.drop
        have:=congrArg List.length hr
        simp at this hlin
        omega
       rw [wrapN (by omega) (by omega)];omega
      have hw2:IntKind.wrap .i64 ((i:Int)+o+1-1)=((i+o:Nat):Int):=by
       have:=hl.isz;have:=h.sz
       simp only at hlin
       have:o<us.length:=by
        obtain ⟨rest,hr⟩:=hl.drop
        have:=congrArg List.length hr
        simp at this hlin
        omega
       rw [wrapN (by omega) (by omega)];omega
      refine ⟨s8,[w0,w1,w2,av,w4],zcR v _ _ _ st ?_,(x07.keepB hB).thenI f4 (zlt hB x07.next) (.inr (by simp)),f5,rfl,by simp [hw,ho.cell.2]⟩
      simp only [zcw,e,zob,k0,zaa,zdf h0',znf,zct,c3,zal,List.getElem?_toArray,zgs,zgz,e7,zdt hneg,zad,f1,hw1,hw2,f2]
    | ok y=>
      obtain ⟨x,n⟩:=y
      rw [hx] at hp hlin
      obtain ⟨m,hm,c3⟩:=hp
      simp only at hlin
      have x3:Ext st (st.adv m):=.advR st hm
      obtain ⟨s7,e7,a7,x7,_⟩:=zaQ (st:=st.adv m) (x3.ll hll) (r:=Z3) (zaJ (valRow x)) (n:=3) rfl rfl rfl
      have x07:=x3.trans x7
      have nx7:B≤s7.next:=zlt hB x07.next
      have la7:=ha.ext x07
      have o7:=ho.ext x07
      have l13:s7.ld lb 3=some av:=la7.ld
      have l14:s7.ldN (st.adv m).next 0 3=some (.agg (valRow x).toArray):=a7.ldN rfl
      have hc15:zaE (.agg (valRow x).toArray) 3=some (valRow x):=zg8 rfl
      obtain ⟨av',s17,g1,g2,g3⟩:=o7.pushK nx7 (by rw [x07.lim];exact hlim) (row:=valRow x) rfl (by omega) rfl (bt:=32) (by omega) (by omega)
      have la17:=la7.keepB (g3 []) hlB (by simp)
      have h17:=(h.ext x07).keepB (g3 []) (by omega) (by simp)
      have K17:Keep B [lb] st s17:=(x07.keepB hB).then (g3 _)
      obtain ⟨s19,e19,a19,m19,_⟩:=la17.stV (k:=3) (n:=1) g2.cell.1 rfl (by simp [g2.cell.2]) (row':=[w0,w1,w2,av',w4]) rfl
      have nx17:B≤s17.next:=zlt hB K17.next
      have K19:=K17.thenI m19 nx17 (.inr (by simp))
      have h19:=h17.keepB (m19.keepB (zlr _)) (by omega) (by simp;omega)
      have o19:=g2.modLt m19 (by simp;omega)
      have o19':Own B s19 av' (rowsF valRow (vs++[x])) 3 (vs++[x]).length:=by rw [zbS,zcV,List.length_append];exact o19
      have hnl:n<(t::r).length:=by
       obtain ⟨t',r',e⟩:=hlin.1.ne
       have:=congrArg List.length e
       simp at this ⊢
       omega
      have hj23:∃ r2,At s19 j2 r2∧r2.length=5:=by
       obtain ⟨r2,a2,l2⟩:=hj2
       exact ⟨r2,a2.keepB K19 (by omega) (by simp;omega),l2⟩
      have next:=ih (i+n) ((t::r).drop n) (vs++[x]) av' s19 (by rw [List.length_drop];omega) (by simp;omega) (K19.ll hll) h19 (hl.go hlin.1) a19 hj23 (zlt hB K19.next) o19'
      have hneg:¬ (n:Int)<0:=by omega
      have hgo:=(hl.go hlin.1).isz
      have hwn:IntKind.wrap .i64 ((i:Int)+(n:Int))=((i+n:Nat):Int):=zmM hisz (by have:=h.sz;omega)
      have step:∀ y,zan 11 [v,ptr j2 0,ptr lb 0,.int .i64 ((i+n:Nat):Int)] s19=some y→zan 11 [v,ptr j2 0,ptr lb 0,.int .i64 i] st=some y:=fun y hy=>by
       refine zcR v _ _ _ st ?_
       simp only [zcw,e,zob,k0,zaa,zdf h0',znf,zct,c3,zal,List.getElem?_toArray,zgs,zgz,e7,zdf hneg,zcf,zad,l13,l14,hc15,List.append_nil,g1,e19,hwn]
       exact hy
      simp only
      cases hz:zcO k ((t::r).drop n) with
      | error o=>
        rw [hz] at next
        obtain ⟨st',row,d1,d2,d4,d5,d6⟩:=next
        rw [Nat.add_assoc] at d1
        exact ⟨st',row,step _ d1,(K19.mono (zlr _) (fun j hj _=>by simp at hj ⊢;omega)).then d2,d4,d5,d6⟩
      | ok qs=>
        rw [hz] at next
        obtain ⟨st',pv2,d1,d2,d4,d5⟩:=next
        exact ⟨st',pv2,step _ d1,K19.then d2,d4,by simpa using d5⟩
theorem zq0 [Sym] {us:List (Nat×Tok)} {hi i:Nat} {t:Nat×Tok} (ps:List Pr) (hsz:ps.length≤1099511627776) (v pv t2 x:Value) (st0:SS) (hll:st0.lim≤st0.next) (h:RT st0 v us hi) (ht:us[i]?=some t) (hv:Rd st0 pv (rowsF prRow ps) 5 ps.length):
  ∀ (k j:Nat) (b:Bool) (st:SS),ps.length=k+j→Ext st0 st→∃ st',zan 21 [v,t2,x,.int .i64 i,.bool b,pv,.int .i64 ps.length,.int .i64 j] st=some (0,[v,t2,x,.int .i64 i,.bool (b||decide (t.2.tx∈(ps.drop j).map (·.fd)))],st')∧Ext st0 st':=by
 intro k
 induction k with
 | zero=>
   intro j b st hk he
   have hlt:¬ (j:Int)<(ps.length:Int):=by omega
   refine ⟨st,zcS v t2 x _ _ pv _ _ st ?_,he⟩
   rw [List.drop_of_length_le (by omega)]
   simp only [zcx,zdf hlt,zcf,List.map_nil,List.not_mem_nil,decide_false,Bool.or_false]
 | succ k ih=>
   intro j b st hk he
   obtain ⟨p,hp⟩:∃ p,ps[j]?=some p:=⟨_,zge (by omega)⟩
   have hjl:(j:Int)<(ps.length:Int):=by omega
   obtain ⟨y,b1,b2,_⟩:=(hv.ext he).load (j:=(j:Int)) (by omega) hjl (zbv zkK ps j p hp) rfl
   have b2':st.ldN y.1 y.2 5=some (.agg (prRow p).toArray):=b2
   obtain ⟨s4,e4,a4,x4,_⟩:=zaQ (st:=st) (he.ll hll) (r:=[.string ⟨#[]⟩,.int .i64 0,.string ⟨#[]⟩,.int .i64 0,.int .i64 0]) (zaJ (prRow p)) (n:=5) rfl rfl rfl
   have l0:s4.ld st.next 0=some (.string (mkS p.fd)):=a4.ld
   obtain ⟨q,e,hq⟩:=h.at' ht
   obtain ⟨_,k1,_⟩:=hq s4 (h.ext (he.trans x4))
   have hw:=za6 (i:=j) (by omega)
   rw [drop_cons hp]
   cases b with
   | true=>
     obtain ⟨st',d1,d2⟩:=ih (j+1) true s4 (by omega) (he.trans x4)
     refine ⟨st',zcS v t2 x _ _ pv _ _ st ?_,d2⟩
     simp only [Bool.true_or] at d1
     simp only [zcx,zdt hjl,zct,b1,zob,b2',e4,hw,Bool.true_or]
     exact d1
   | false=>
     obtain ⟨st',d1,d2⟩:=ih (j+1) (eqT (mkS p.fd) (mkS t.2.tx)) s4 (by omega) (he.trans x4)
     refine ⟨st',zcS v t2 x _ _ pv _ _ st ?_,d2⟩
     have hor:(eqT (mkS p.fd) (mkS t.2.tx)||decide (t.2.tx∈(ps.drop (j+1)).map (·.fd)))=(false||decide (t.2.tx∈(p::ps.drop (j+1)).map (·.fd))):=by
      rw [zec,Bool.eq_iff_iff]
      simp only [Bool.or_eq_true,decide_eq_true_eq,List.map_cons,List.mem_cons,Bool.false_eq_true,false_or]
      constructor
      ·rintro (h | h)
       ·exact .inl h.symm
       ·exact .inr h
      ·rintro (h | h)
       ·exact .inl h.symm
       ·exact .inr h
     rw [hor] at d1
     simp only [zcx,zdt hjl,zct,b1,zob,b2',e4,zcf,l0,zab,e,k1,hw]
     exact d1
noncomputable def zf1 (cf:zak) (lf:zac) (a b c:Value) (d:Int) (e:Bool) (s:SS):Option (Nat×List Value×SS):=
 (zar a d 5).bind fun f=>
  ((s.ld f.1 f.2).bind (asI .i64)).bind fun g=>
  cond (!(decide (g=1))) (
   (addr? c).bind fun h=>
   (s.ldN h.1 h.2 5).bind fun i=>
   (addr? b).bind fun j=>
   (s.stV j.1 j.2 5 i).bind fun k=>
   some (1,[b,.int .i64 d],k)) (
   cond e (
    (addr? c).bind fun l=>
    (s.ldN l.1 l.2 5).bind fun m=>
    (addr? b).bind fun n=>
    (s.stV n.1 n.2 5 m).bind fun o=>
    some (1,[b,.int .i64 d],o)) (
    let p:Int:=IntKind.wrap .i64 (d+1)
    (cf 81 [a,.int .i64 p,.int .i64 3,.string ⟨#[61]⟩] s).bind fun q=>
    ((some q.1).bind asB).bind fun r=>
    cond (!r) (
     (addr? c).bind fun t=>
     (q.2.ldN t.1 t.2 5).bind fun u=>
     let v:Int:=IntKind.wrap .i64 (d+1)
     (addr? b).bind fun w=>
     (q.2.stV w.1 w.2 5 u).bind fun x=>
     some (1,[b,.int .i64 v],x)) (
     let y:Int:=IntKind.wrap .i64 (d+2)
     (cf 82 [a,.int .i64 y] q.2).bind fun z=>
     (zal z.1 0).bind fun A=>
     ((zal z.1 1).bind (asI .i64)).bind fun B=>
     let C:SS:=z.2.new (.cells [.string ⟨#[]⟩,.int .i64 0,.int .i64 0] 0)
     (C.stV z.2.next 0 3 A).bind fun D=>
     cond (decide (B<0)) (
      (addr? c).bind fun E=>
      (D.ldN E.1 E.2 5).bind fun F=>
      let G:Int:=IntKind.wrap .i64 (d+2)
      let H:Int:=IntKind.wrap .i64 (G-B)
      let I:Int:=IntKind.wrap .i64 (H-1)
      (addr? b).bind fun J=>
      (D.stV J.1 J.2 5 F).bind fun K=>
      some (1,[b,.int .i64 I],K)) (
      (addr? c).bind fun L=>
      (D.ld L.1 (L.2+4)).bind fun M=>
      (zar a d 5).bind fun N=>
      ((D.ld N.1 (N.2+1)).bind asS).bind fun O=>
      (zar a d 5).bind fun P=>
      ((D.ld P.1 (P.2+4)).bind (asI .i64)).bind fun Q=>
      (D.ldN z.2.next 0 3).bind fun R=>
      (zaE R 3).bind fun S=>
      (zaE (.agg ⟨spl [.string O,.int .i64 Q,.string ⟨#[]⟩,.int .i64 0,.int .i64 0] 2 S⟩) 5).bind fun T=>
      let U:SS:=D.new (.cells (T++([])) 5)
      (U.app 5 56 M (.slice (some ⟨D.next,0,none⟩) 1 1)).bind fun V=>
      (addr? c).bind fun W=>
      (V.2.stV W.1 (W.2+4) 1 V.1).bind fun X=>
      let Y:Int:=IntKind.wrap .i64 (d+2)
      let Z:Int:=IntKind.wrap .i64 (Y+B)
      lf 18 [a,b,c,.int .i64 Z] X))))
noncomputable def rpK (cf:zak) (lf:zac) (a:Nat×List Value×SS):Option (Nat×List Value×SS):=
 (a.2.1[0]?).bind fun b=>(a.2.1[1]?).bind fun c=>(a.2.1[2]?).bind fun d=>((a.2.1[3]?).bind (asI .i64)).bind fun e=>((a.2.1[4]?).bind asB).bind fun f=>zf1 cf lf b c d e f a.2.2
theorem rpK_eq (cf:zak) (lf:zac) (e:Nat) (v7 v8 v9:Value) (n:Int) (b:Bool) (s:SS):rpK cf lf (e,[v7,v8,v9,.int .i64 n,.bool b],s)=zf1 cf lf v7 v8 v9 n b s:=rfl
theorem zn1 (cf:zak) (lf:zac) (v t2 x:Value) (i:Int) (st:SS):zdy cf lf v t2 x i st=(zar v i 5).bind fun p1=>((st.ld p1.1 p1.2).bind (asI .i64)).bind fun n2=>cond (!(decide (n2=0)))
  ((addr? x).bind fun p3=>(st.ld p3.1 (p3.2+4)).bind fun v4=>((lenV v4).bind (asI .i64)).bind fun n5=>(lf 21 [v,t2,x,.int .i64 i,.bool false,v4,.int .i64 n5,.int .i64 0] st).bind (rpK cf lf)) (some (0,[t2,x],st)):=rfl
def znA (B lb j2:Nat) (w0 w1 w2 w3 v:Value) (i:Nat) (ps:List Pr) (st:SS) (r:Option (Nat×List Value×SS)):Except Nat (List Pr)→Prop
 | .ok qs=>∃ st' pv',r=some (0,[ptr j2 0,ptr lb 0],st')∧Keep B [lb] st st'∧At st' lb [w0,w1,w2,w3,pv']∧Own B st' pv' (rowsF prRow (ps++qs)) 5 (ps++qs).length
 | .error o=>∃ st' row,r=some (1,[ptr j2 0,.int .i64 ((i+o:Nat):Int)],st')∧Keep B [lb,j2] st st'∧At st' j2 row∧row.length=5∧row.all one=true
theorem spl_pr (a:ByteArray) (c:Int) (w:Val):zaE (.agg ⟨spl [.string a,.int .i64 c,.string ⟨#[]⟩,.int .i64 0,.int .i64 0] 2 (valRow w)⟩) 5=some [.string a,.int .i64 c,.string (mkS w.nm),.int .i64 w.x,.int .i64 w.col]:=rfl
def RStepR (B lb j2:Nat) (w0 w1 w2 w3 pv v:Value) (us:List (Nat×Tok)) (hi i:Nat) (ps:List Pr) (st s6:SS) (lf:zac) (r:Option (Nat×List Value×SS)):Except Nat (Pr×Nat)→Prop
 | .ok (p,n)=>∃ s55 pv',r=lf 18 [v,ptr j2 0,ptr lb 0,.int .i64 ((i+n:Nat):Int)] s55∧Keep B [lb] st s55∧At s55 lb [w0,w1,w2,w3,pv']∧Own B s55 pv' (rowsF prRow (ps++[p])) 5 (ps++[p]).length∧RT s55 v us hi
 | .error o=>∃ s',r=some (1,[ptr j2 0,.int .i64 ((i+o:Nat):Int)],s')∧Keep B [lb,j2] st s'∧At s' j2 [w0,w1,w2,w3,pv]
theorem zsm [Sym] {ln lb B j2 hi i:Nat} {v w0 w1 w2 w3 pv:Value} {us:List (Nat×Tok)} {l:List Tok} {t:Tok} {r:List Tok} (hlr:l=t::r) {ps:List Pr} {st s6:SS} (lf:zac) (hhj:hi≤j2) (hjl:j2<lb) (hlB:lb<B) (hw:one w0=true∧one w1=true∧one w2=true∧one w3=true)
  (hps:ps.length≤1099511627776/8) (hll:st.lim≤st.next) (h:RT st v us hi) (hl:LineAt us i ln l) (ha:At st lb [w0,w1,w2,w3,pv]) (hj2:∃ r2,At st j2 r2∧r2.length=5) (hB:B≤st.next) (ho:Own B st pv (rowsF prRow ps) 5 ps.length) (x6:Ext st s6):
  RStepR B lb j2 w0 w1 w2 w3 pv v us hi i ps st s6 lf (zf1 cc lf v (ptr j2 0) (ptr lb 0) i (decide (t.tx∈ps.map (·.fd))) s6) (pairT (ps.map (·.fd)) l):=by
 subst hlr
 obtain ⟨p,e,hp⟩:=h.at' hl.head
 have hlim:st.lim≤B:=by have:=ha.2.2;omega
 have hisz:i≤1099511627776:=by have:=hl.isz;have:=h.sz;omega
 have h6:=h.ext x6
 obtain ⟨q0,q1,_,_,q4⟩:=hp s6 h6
 have fail:∀ (s:SS),Ext st s→∃ s',s.ldN lb 0 5=some (.agg [w0,w1,w2,w3,pv].toArray)∧s.stV j2 0 5 (.agg [w0,w1,w2,w3,pv].toArray)=some s'∧Keep B [lb,j2] st s'∧At s' j2 [w0,w1,w2,w3,pv]:=by
  intro s x
  obtain ⟨r2,a2,l2⟩:=hj2
  obtain ⟨s',f1,f2,f3,f4,f5⟩:=za9 (n:=5) (a2.ext x) l2 (ha.ext x) rfl (by simp [hw,ho.cell.2])
  exact ⟨s',f1,f2,(x.keepB hB).thenI f4 (zlt hB x.next) (.inr (by simp)),f5⟩
 have hlin:=zh5 (seen:=ps.map (·.fd)) hl.lin
 have hoff:∀ o,pairT (ps.map (·.fd)) (t::r)=.error o→i+o<us.length:=fun o ho'=>by
  rw [ho'] at hlin
  simp only at hlin
  obtain ⟨rest,hr⟩:=hl.drop
  have hr':=congrArg List.length hr
  rw [List.length_drop,List.length_append,List.length_map] at hr'
  have hlt:=hl.isz
  omega
 rw [zg9] at hlin hoff ⊢
 by_cases h1:t.kd=1
 case neg=>
  rw [if_neg (fun x=>h1 x.1)]
  have h1':¬ (t.kd:Int)=1:=by omega
  obtain ⟨s',f1,f2,f3,f4⟩:=fail s6 x6
  refine ⟨s',?_,f3,f4⟩
  rw [Nat.add_zero]
  simp only [zf1,e,zob,zaa,zad,q0,zdf h1',znf,zct,f1,f2]
 have h1':(t.kd:Int)=1:=by omega
 by_cases hk:t.tx∈ps.map (·.fd)
 ·rw [if_neg (fun x=>x.2 hk)]
  obtain ⟨s',f1,f2,f3,f4⟩:=fail s6 x6
  refine ⟨s',?_,f3,f4⟩
  rw [Nat.add_zero,zdt hk]
  simp only [zf1,e,zob,zaa,zad,q0,zdt h1',znt,zcf,zct,f1,f2]
 rw [if_pos ⟨h1,hk⟩] at hlin hoff ⊢
 rw [zdf hk]
 have hl1:=hl.tail (by omega)
 obtain ⟨e',u,rfl⟩:=hl1.lin.ne
 have c23:=zkM h6 hl1.head [61]
 have c23':cc 81 [v,.int .i64 ((i+1:Nat):Int),.int .i64 3,.string ⟨#[61]⟩] s6=some (.bool (zaA e' [61]),s6):=c23
 have hw1:=za6 hisz
 have hw2:IntKind.wrap .i64 ((i:Int)+2)=((i+2:Nat):Int):=zmM hisz (k:=2) (by omega)
 simp only at hlin hoff ⊢
 by_cases he:zaA e' [61]=true
 case neg=>
  have he':zaA e' [61]=false:=Bool.eq_false_iff.2 he
  rw [he'] at c23'
  rw [if_neg he]
  obtain ⟨s',f1,f2,f3,f4⟩:=fail s6 x6
  refine ⟨s',?_,f3,f4⟩
  simp only [zf1,e,zob,zaa,zad,q0,zdt h1',znt,zcf,hw1,c23',zaf,znf,zct,f1,f2]
 rw [he] at c23'
 rw [if_pos he] at hlin hoff ⊢
 have hl2:=hl1.tail (by have:=zbN he;omega)
 have hval:=zqe h6 (by have:=x6.next;omega) hl2
 cases hx:zdB u with
 | error o=>
   rw [hx] at hval hoff
   have hoff':=hoff (2+o) rfl
   obtain ⟨m,w,hm,c31⟩:=hval
   have c31':cc 82 [v,.int .i64 ((i+2:Nat):Int)] s6=some (.tuple #[.agg (valRow w).toArray,.int .i64 (-((o:Int)+1))],s6.adv m):=c31
   have x31:Ext s6 (s6.adv m):=.advR _ hm
   obtain ⟨s35,e35,a35,x35,_⟩:=zaQ (st:=s6.adv m) ((x6.trans x31).ll hll) (r:=Z3) (zaJ (valRow w)) (n:=3) rfl rfl rfl
   have hneg: -((o:Int)+1)<0:=by omega
   have hw3:IntKind.wrap .i64 (((i+2:Nat):Int)- -((o:Int)+1))=(i:Int)+2+o+1:=by have:=h.sz;rw [wrapN (by omega) (by omega)];omega
   have hw4:IntKind.wrap .i64 ((i:Int)+2+o+1-1)=((i+(2+o):Nat):Int):=by have:=h.sz;rw [wrapN (by omega) (by omega)];omega
   obtain ⟨s',f1,f2,f3,f4⟩:=fail s35 ((x6.trans x31).trans x35)
   refine ⟨s',?_,f3,f4⟩
   simp only [zf1,e,zob,zaa,zad,q0,zdt h1',znt,zcf,hw1,c23',zaf,hw2,c31',zal,List.getElem?_toArray,zgs,zgz,e35,zdt hneg,zct,f1,hw3,hw4,f2]
 | ok y=>
   obtain ⟨x,n⟩:=y
   rw [hx] at hval hlin
   simp only at hlin
   obtain ⟨m,hm,c31⟩:=hval
   have c31':cc 82 [v,.int .i64 ((i+2:Nat):Int)] s6=some (.tuple #[.agg (valRow x).toArray,.int .i64 n],s6.adv m):=c31
   have x31:Ext s6 (s6.adv m):=.advR _ hm
   obtain ⟨s35,e35,a35,x35,_⟩:=zaQ (st:=s6.adv m) ((x6.trans x31).ll hll) (r:=Z3) (zaJ (valRow x)) (n:=3) rfl rfl rfl
   have x035:=(x6.trans x31).trans x35
   have la35:=ha.ext x035
   have o35:=ho.ext x035
   have l44:s35.ld lb 4=some pv:=la35.ld
   obtain ⟨_,z1,_,_,z4⟩:=hp s35 (h.ext x035)
   have l49:s35.ldN (s6.adv m).next 0 3=some (.agg (valRow x).toArray):=a35.ldN rfl
   have hc50:zaE (.agg (valRow x).toArray) 3=some (valRow x):=zg8 rfl
   have nx35:B≤s35.next:=zlt hB x035.next
   obtain ⟨pv',s53,g1,g2,g3⟩:=o35.pushK nx35 (by rw [x035.lim];exact hlim) (row:=prRow ⟨t.tx,t.col,x⟩) rfl (by omega) rfl (bt:=56) (by omega) (by omega)
   have g1':(s35.new (.cells [.string (mkS t.tx),.int .i64 t.col,.string (mkS x.nm),.int .i64 x.x,.int .i64 x.col] 5)).app 5 56 pv (.slice (some ⟨s35.next,0,none⟩) 1 1)=some (pv',s53):=g1
   have la53:=la35.keepB (g3 []) hlB (by simp)
   have h53:=(h.ext x035).keepB (g3 []) (by omega) (by simp)
   have K53:Keep B [lb] st s53:=(x035.keepB hB).then (g3 _)
   obtain ⟨s55,e55,a55,m55,_⟩:=la53.stV (k:=4) (n:=1) g2.cell.1 rfl (by simp [g2.cell.2]) (row':=[w0,w1,w2,w3,pv']) rfl
   have nx53:B≤s53.next:=zlt hB K53.next
   have K55:=K53.thenI m55 nx53 (.inr (by simp))
   have h55:=h53.keepB (m55.keepB (zlr _)) (by omega) (by simp;omega)
   have o55:=g2.modLt m55 (by simp;omega)
   have o55':Own B s55 pv' (rowsF prRow (ps++[(⟨t.tx,t.col,x⟩:Pr)])) 5 (ps++[(⟨t.tx,t.col,x⟩:Pr)]).length:=by rw [zbS,zcV,List.length_append];exact o55
   have hgo:=hl.go (n:=2+n) hlin.1
   have hgz:=hgo.isz
   have hneg:¬ (n:Int)<0:=by omega
   have hw3:IntKind.wrap .i64 (((i+2:Nat):Int)+(n:Int))=((i+(2+n):Nat):Int):=by have:=h.sz;rw [wrapN (by omega) (by omega)];omega
   refine ⟨s55,pv',?_,K55,a55,o55',h55⟩
   simp only [zf1,e,zob,zaa,zad,q0,zdt h1',znt,zcf,hw1,c23',zaf,hw2,c31',zal,List.getElem?_toArray,zgs,zgz,e35,zdf hneg,l44,z1,zab,z4,l49,hc50,spl_pr,List.append_nil,g1',e55,hw3]
theorem zpN [Sym] {ln lb B j2 hi:Nat} {v w0 w1 w2 w3:Value} {us:List (Nat×Tok)} (hhj:hi≤j2) (hjl:j2<lb) (hlB:lb<B) (hw:one w0=true∧one w1=true∧one w2=true∧one w3=true):∀ (k i:Nat) (l:List Tok) (ps:List Pr) (pv:Value) (st:SS),l.length≤k→ps.length+k≤1099511627776/8→st.lim≤st.next→RT st v us hi→LineAt us i ln l→
  At st lb [w0,w1,w2,w3,pv]→(∃ r2,At st j2 r2∧r2.length=5)→B≤st.next→Own B st pv (rowsF prRow ps) 5 ps.length→
  znA B lb j2 w0 w1 w2 w3 v i ps st (zan 18 [v,ptr j2 0,ptr lb 0,.int .i64 i] st) (zba k (ps.map (·.fd)) l):=by
 intro k
 induction k with
 | zero=>
   intro i l ps pv st hk _ _ h hl
   obtain ⟨t,r,rfl⟩:=hl.lin.ne
   simp at hk
 | succ k ih=>
   intro i l ps pv st hk hps hll h hl ha hj2 hB ho
   obtain ⟨t,r,rfl⟩:=hl.lin.ne
   obtain ⟨p,e,hp⟩:=h.at' hl.head
   obtain ⟨k0,_⟩:=hp st h
   unfold zba
   by_cases h0:t.kd=0
   ·rw [if_pos h0]
    have hr:=hl.lin.last h0
    subst hr
    have h0':(t.kd:Int)=0:=by omega
    refine ⟨st,pv,zej v _ _ _ st ?_,.refl _,ha,by simpa using ho⟩
    simp only [zn1,e,zob,k0,zaa,zdt h0',znt,zcf]
   rw [if_neg h0]
   have h0':¬ (t.kd:Int)=0:=by omega
   have l4:st.ld lb 4=some pv:=ha.ld
   have hlp:(lenV pv).bind (asI .i64)=some (ps.length:Int):=by rw [ho.len];rfl
   obtain ⟨s6,c6,x6⟩:=zq0 ps (by omega) v pv (ptr j2 0) (ptr lb 0) st hll h hl.head ho.rd ps.length 0 false st (by omega) (.refl _)
   have c6':zan 21 [v,ptr j2 0,ptr lb 0,.int .i64 i,.bool false,pv,.int .i64 ps.length,.int .i64 0] st=some (0,[v,ptr j2 0,ptr lb 0,.int .i64 i,.bool (decide (t.tx∈ps.map (·.fd)))],s6):=c6
   have hst:=zsm rfl zan hhj hjl hlB hw (by omega) hll h hl ha hj2 hB ho x6
   have step:∀ y,zf1 cc zan v (ptr j2 0) (ptr lb 0) i (decide (t.tx∈ps.map (·.fd))) s6=some y→zan 18 [v,ptr j2 0,ptr lb 0,.int .i64 i] st=some y:=fun y hy=>by
    refine zej v _ _ _ st ?_
    have E:zdy cc zan v (ptr j2 0) (ptr lb 0) i st=(zan 21 [v,ptr j2 0,ptr lb 0,.int .i64 i,.bool false,pv,.int .i64 ps.length,.int .i64 0] st).bind (rpK cc zan):=by
     rw [zn1]
     simp only [e,zob,k0,zaa,zdf h0',znf,zct,zad,Nat.zero_add,l4,hlp]
    rw [E,c6',zob,rpK_eq]
    exact hy
   have hlin:=zh5 (seen:=ps.map (·.fd)) hl.lin
   cases hx:pairT (ps.map (·.fd)) (t::r) with
   | error o=>
     rw [hx] at hst
     obtain ⟨s',d1,d2,d3⟩:=hst
     exact ⟨s',_,step _ d1,d2,d3,rfl,by simp [hw,ho.cell.2]⟩
   | ok y=>
     obtain ⟨x,n⟩:=y
     rw [hx] at hst hlin
     simp only at hlin
     obtain ⟨s55,pv',d1,K55,a55,o55,h55⟩:=hst
     have hgo:=hl.go (n:=n) hlin.1
     have hnl:n<(t::r).length:=by
      obtain ⟨t',r',e⟩:=hlin.1.ne
      have:=congrArg List.length e
      simp at this ⊢
      omega
     have hj23:∃ r2,At s55 j2 r2∧r2.length=5:=by
      obtain ⟨r2,a2,l2⟩:=hj2
      exact ⟨r2,a2.keepB K55 (by omega) (by simp;omega),l2⟩
     have next:=ih (i+n) ((t::r).drop n) (ps++[x]) pv' s55 (by rw [List.length_drop];omega) (by simp;omega) (K55.ll hll) h55 hgo a55 hj23 (zlt hB K55.next) o55
     rw [List.map_append] at next
     have next':znA B lb j2 w0 w1 w2 w3 v (i+n) (ps++[x]) s55 (zan 18 [v,ptr j2 0,ptr lb 0,.int .i64 ((i+n:Nat):Int)] s55) (zba k (ps.map (·.fd)++[x.fd]) ((t::r).drop n)):=next
     simp only
     cases hz:zba k (ps.map (·.fd)++[x.fd]) ((t::r).drop n) with
     | error o=>
       rw [hz] at next'
       obtain ⟨st',row,b1,b2,b4,b5,b6⟩:=next'
       rw [Nat.add_assoc] at b1
       exact ⟨st',row,step _ (d1.trans b1),(K55.mono (zlr _) (fun j hj _=>by simp at hj ⊢;omega)).then b2,b4,b5,b6⟩
     | ok qs=>
       rw [hz] at next'
       obtain ⟨st',pv2,b1,b2,b4,b5⟩:=next'
       exact ⟨st',pv2,step _ (d1.trans b1),K55.then b2,b4,by simpa using b5⟩
noncomputable def zfm (cf:zak) (lf:zac) (l':Value) (j2 lb:Nat) (a0 a1 a2:Int) (s:SS):Option (Value×SS):=
 (cf 81 [l',.int .i64 a0,.int .i64 3,.string ⟨#[46]⟩] s).bind fun a=>
  ((some a.1).bind asB).bind fun b=>
  cond b (
   (zar l' a1 5).bind fun c=>
   ((a.2.ld c.1 c.2).bind (asI .i64)).bind fun d=>
   cond (!(decide (d=1))) (
    (a.2.ldN lb 0 5).bind fun e=>
    (a.2.stV j2 0 5 e).bind fun f=>
    (f.rdN j2 0 5).bind fun g=>
    some (.tuple #[g,.int .i64 a1],f)) (
    (zar l' a1 5).bind fun h=>
    ((a.2.ld h.1 (h.2+1)).bind asS).bind fun i=>
    (a.2.st lb 2 [.string i]).bind fun j=>
    (lf 11 [l',ptr j2 0,ptr lb 0,.int .i64 a2] j).bind fun k=>
    cond (Nat.beq k.1 0) (
     (k.2.1[0]?).bind fun l=>
     (k.2.1[1]?).bind fun m=>
     (addr? m).bind fun n=>
     (k.2.2.ldN n.1 n.2 5).bind fun o=>
     (addr? l).bind fun p=>
     (k.2.2.stV p.1 p.2 5 o).bind fun q=>
     (addr? l).bind fun r=>
     (q.rdN r.1 r.2 5).bind fun t=>
     some (.tuple #[t,.int .i64 (-1)],q)) (
     (k.2.1[0]?).bind fun u=>
     ((k.2.1[1]?).bind (asI .i64)).bind fun v=>
     (addr? u).bind fun w=>
     (k.2.2.rdN w.1 w.2 5).bind fun x=>
     some (.tuple #[x,.int .i64 v],k.2.2)))) (
   (lf 18 [l',ptr j2 0,ptr lb 0,.int .i64 a0] a.2).bind fun y=>
   cond (Nat.beq y.1 0) (
    (y.2.1[0]?).bind fun z=>
    (y.2.1[1]?).bind fun A=>
    (addr? A).bind fun B=>
    (y.2.2.ldN B.1 B.2 5).bind fun C=>
    (addr? z).bind fun D=>
    (y.2.2.stV D.1 D.2 5 C).bind fun E=>
    (addr? z).bind fun F=>
    (E.rdN F.1 F.2 5).bind fun G=>
    some (.tuple #[G,.int .i64 (-1)],E)) (
    (y.2.1[0]?).bind fun H=>
    ((y.2.1[1]?).bind (asI .i64)).bind fun I=>
    (addr? H).bind fun J=>
    (y.2.2.rdN J.1 J.2 5).bind fun K=>
    some (.tuple #[K,.int .i64 I],y.2.2)))
def RdR (B ln:Nat) (i:Nat) (st:SS) (r:Option (Value×SS)):Except Nat PLine→Prop
 | .ok x=>∃ st' av pv,r=some (.tuple #[zk4 ln x av pv,.int .i64 (-1)],st')∧Keep B [] st st'∧Own B st' av (rowsF valRow x.args) 3 x.args.length∧Own B st' pv (rowsF prRow x.prs) 5 x.prs.length
 | .error o=>∃ (st':SS) (row:List Value),r=some (.tuple #[.agg row.toArray,.int .i64 ((i+o:Nat):Int)],st')∧Keep B [] st st'∧row.length=5∧row.all one=true
theorem zpe [Sym] {ln lb j2 i B hi:Nat} {v:Value} {us:List (Nat×Tok)} {l:List Tok} {lab:List UInt8} {s:SS} (hhi:hi≤B) (hBj:B≤j2) (hjl:j2<lb) (hls:lb<s.next) (hll:s.lim≤s.next) (h:RT s v us hi) (hl:LineAt us i ln l)
  (ha:At s lb [.int .i64 ln,.string (mkS lab),.string ⟨#[]⟩,.slice none 0 0,.slice none 0 0]) (hj2:∃ r2,At s j2 r2∧r2.length=5):
  RdR B ln i s (zfm cc zan v j2 lb i ((i+1:Nat):Int) ((i+2:Nat):Int) s) (zcD lab l):=by
 obtain ⟨t,r,rfl⟩:=hl.lin.ne
 have hb0:Nat.beq 0 0=true:=rfl
 have hb1:Nat.beq 1 0=false:=rfl
 have hBs:B≤s.next:=by omega
 have hlen:(t::r).length≤us.length:=by
  obtain ⟨rest,hr⟩:=hl.drop
  have:=congrArg List.length hr
  simp at this ⊢
  omega
 have hsz:=h.sz
 have c23:=zkM h hl.head [46]
 have c23':cc 81 [v,.int .i64 i,.int .i64 3,.string ⟨#[46]⟩] s=some (.bool (zaA t [46]),s):=c23
 rw [zdX]
 by_cases hs:zaA t [46]=true
 ·rw [hs] at c23'
  rw [if_pos hs]
  have hl1:=hl.tail (by have:=zbN hs;omega)
  obtain ⟨d,u,rfl⟩:=hl1.lin.ne
  obtain ⟨p,e,hp⟩:=h.at' hl1.head
  obtain ⟨k0,k1,_⟩:=hp s h
  simp only
  by_cases hd:d.kd=1
  ·rw [if_pos hd]
   have hd':(d.kd:Int)=1:=by omega
   have hl2:=hl1.tail (by omega)
   obtain ⟨s28,e28,a28,m28,n28⟩:=ha.sto (k:=2) (vs:=[.string (mkS d.tx)]) (row':=[.int .i64 ln,.string (mkS lab),.string (mkS d.tx),.slice none 0 0,.slice none 0 0]) rfl rfl
   have hj28:∃ r2,At s28 j2 r2∧r2.length=5:=by obtain ⟨r2,a,l2⟩:=hj2;exact ⟨r2,a.mod m28 (by simp;omega),l2⟩
   have h28:=h.keepB (m28.keepB (zlr _)) (by omega) (by simp;omega)
   have K28:Keep B [] s s28:=(m28.keepB hBs).mono (zlr _) (fun j hj hlt=>by simp at hj;omega)
   have hloop:=zqZ (B:=s28.next) (lb:=lb) (j2:=j2) (ln:=ln) (by omega) hjl (by omega) (w0:=.int .i64 ln) (w1:=.string (mkS lab)) (w2:=.string (mkS d.tx)) (w4:=.slice none 0 0) ⟨rfl,rfl,rfl,rfl⟩ u.length (i+1+1) u [] (.slice none 0 0) s28 (zlr _) (by simp at hlen ⊢;omega) (m28.ll hll) h28 hl2 a28 hj28 (zlr _) (Own.nil _ _ _)
   cases hx:zcO u.length u with
   | error o=>
     rw [hx] at hloop
     obtain ⟨s32,row,d1,d2,d4,d5,d6⟩:=hloop
     have d1':zan 11 [v,ptr j2 0,ptr lb 0,.int .i64 ((i+2:Nat):Int)] s28=some (1,[ptr j2 0,.int .i64 ((i+1+1+o:Nat):Int)],s32):=d1
     have hr:=d4.rdN d5
     refine ⟨s32,row,?_,K28.then (d2.mono (by omega) (fun j hj hlt=>by simp at hj;omega)),d5,d6⟩
     have ei:i+1+1+o=i+(2+o):=by omega
     rw [ei] at d1'
     simp only [zfm,c23',zob,zaf,zct,e,k0,zaa,zdt hd',znt,zcf,k1,zab,e28,d1',hb1,zgs,zgz,zad,hr]
   | ok vs=>
     rw [hx] at hloop
     obtain ⟨s32,av',d1,d2,d4,d5⟩:=hloop
     have d1':zan 11 [v,ptr j2 0,ptr lb 0,.int .i64 ((i+2:Nat):Int)] s28=some (0,[ptr j2 0,ptr lb 0],s32):=d1
     obtain ⟨r2,a2,l2⟩:=hj28
     have a232:=a2.keepB d2 (by have:=a28.lt;omega) (by simp;omega)
     obtain ⟨s38,f1,f2,f3,f4,f5⟩:=za9 (n:=5) a232 l2 d4 rfl (by simp only [List.all_cons,List.all_nil,d5.cell.2];rfl)
     have K32:Keep B [] s s32:=K28.then (d2.mono (by omega) (fun j hj hlt=>by simp at hj;omega))
     have nx32:=d2.next
     refine ⟨s38,av',.slice none 0 0,?_,K32.thenI f4 (by omega) (.inl hBj),((ziW (S:=[]) d5 f4 (.inl (by have:=a28.lt;omega))).low (by omega)),Own.nil _ _ _⟩
     simp only [zfm,c23',zob,zaf,zct,e,k0,zaa,zdt hd',znt,zcf,k1,zab,e28,d1',hb0,zgs,zgz,zad,f1,f2,f3]
     rfl
  ·rw [if_neg hd]
   have hd':¬ (d.kd:Int)=1:=by omega
   obtain ⟨r2,a2,l2⟩:=hj2
   obtain ⟨s30,f1,f2,f3,f4,f5⟩:=za9 (n:=5) a2 l2 ha rfl rfl
   refine ⟨s30,[.int .i64 ln,.string (mkS lab),.string ⟨#[]⟩,.slice none 0 0,.slice none 0 0],?_,((f4.keepB hBs).mono (zlr _) (fun j hj hlt=>by simp at hj;omega)),rfl,rfl⟩
   simp only [zfm,c23',zob,zaf,zct,e,k0,zaa,zdf hd',znf,f1,f2,f3]
 ·have hs':zaA t [46]=false:=Bool.eq_false_iff.2 hs
  rw [hs'] at c23'
  rw [if_neg hs]
  have hloop:=zpN (B:=s.next) (lb:=lb) (j2:=j2) (ln:=ln) (by omega) hjl (by omega) (w0:=.int .i64 ln) (w1:=.string (mkS lab)) (w2:=.string ⟨#[]⟩) (w3:=.slice none 0 0) ⟨rfl,rfl,rfl,rfl⟩ (t::r).length i (t::r) [] (.slice none 0 0) s (zlr _) (by simp at hlen ⊢;omega) hll h hl ha hj2 (zlr _) (Own.nil _ _ _)
  have hloop':znA s.next lb j2 (.int .i64 ln) (.string (mkS lab)) (.string ⟨#[]⟩) (.slice none 0 0) v i [] s (zan 18 [v,ptr j2 0,ptr lb 0,.int .i64 i] s) (zba (t::r).length [] (t::r)):=hloop
  cases hx:zba (t::r).length [] (t::r) with
  | error o=>
    rw [hx] at hloop'
    obtain ⟨s32,row,d1,d2,d4,d5,d6⟩:=hloop'
    have hr:=d4.rdN d5
    refine ⟨s32,row,?_,d2.mono (by omega) (fun j hj hlt=>by simp at hj;omega),d5,d6⟩
    simp only [zfm,c23',zob,zaf,zcf,d1,hb1,zgs,zgz,zaa,zad,hr]
  | ok ps=>
    rw [hx] at hloop'
    obtain ⟨s32,pv',d1,d2,d4,d5⟩:=hloop'
    obtain ⟨r2,a2,l2⟩:=hj2
    have a232:=a2.keepB d2 (by have:=ha.lt;omega) (by simp;omega)
    obtain ⟨s38,f1,f2,f3,f4,f5⟩:=za9 (n:=5) a232 l2 d4 rfl (by simp only [List.all_cons,List.all_nil,d5.cell.2];rfl)
    have K32:Keep B [] s s32:=d2.mono (by omega) (fun j hj hlt=>by simp at hj;omega)
    have nx32:=d2.next
    refine ⟨s38,.slice none 0 0,pv',?_,K32.thenI f4 (by omega) (.inl hBj),Own.nil _ _ _,((ziW (S:=[]) d5 f4 (.inl (by have:=ha.lt;omega))).low (by omega))⟩
    simp only [zfm,c23',zob,zaf,zcf,d1,hb0,zct,zgs,zgz,zad,f1,f2,f3]
    rfl
theorem RdR.to {B ln i:Nat} {st s:SS} {r r':Option (Value×SS)} {x:Except Nat PLine} (h:RdR B ln i s r x) (K:Keep B [] st s) (hr:∀ y,r=some y→r'=some y):RdR B ln i st r' x:=by
 cases x with
 | ok x=>obtain ⟨st',av,pv,a,k,c⟩:=h;exact ⟨st',av,pv,hr _ a,K.then k,c⟩
 | error o=>obtain ⟨st',row,a,k,c⟩:=h;exact ⟨st',row,hr _ a,K.then k,c⟩
theorem RdR.off {B ln d:Nat} {st:SS} {r:Option (Value×SS)} {x:Except Nat PLine} (h:RdR B ln d st r x):RdR B ln 0 st r (offE d x):=by
 cases x with
 | ok x=>exact h
 | error o=>obtain ⟨st',row,a,k,c⟩:=h;exact ⟨st',row,by rw [Nat.zero_add];exact a,k,c⟩
theorem zuw [Sym] {st:SS} {ln hi:Nat} {v:Value} {l:List Tok} (hll:st.lim≤st.next) (hhi:hi≤st.next) (h:RT st v (l.map fun t=>(ln,t)) hi) (hlin:Lin l) (hok:∀ t∈l,TokOk t):RdR st.next ln 0 st (cc 52 [v] st) (readT l):=by
 have hl:LineAt (l.map fun t=>(ln,t)) 0 ln l:=⟨⟨[],by simp⟩,hlin,hok⟩
 obtain ⟨t,r,rfl⟩:=hlin.ne
 have a1:At (st.new (.cells L5 0)) st.next L5:=At.new hll L5
 have x1:Ext st (st.new (.cells L5 0)):=(Ext.refl st).new _
 obtain ⟨p,e,hp⟩:=h.at' hl.head
 have e':zar v 0 5=some p:=e
 obtain ⟨_,_,_,q3,_⟩:=hp _ (h.ext x1)
 obtain ⟨s5,e5,a5,x5,n5⟩:=ziK (st:=st.new (.cells L5 0)) (x1.ll hll) (r:=L5) (row:=[.int .i64 ln,.string (mkS []),.string ⟨#[]⟩,.slice none 0 0,.slice none 0 0]) rfl rfl
 have e5':((st.new (.cells L5 0)).new (.cells L5 0)).st (st.new (.cells L5 0)).next 0 [.int .i64 ln,.string ⟨#[]⟩,.string ⟨#[]⟩,.slice none 0 0,.slice none 0 0]=some s5:=e5
 have x05:=x1.trans x5
 have b5:=a1.ext x5
 have h5:=h.ext x05
 obtain ⟨k0,k1,_⟩:=hp _ h5
 have hlb:st.next<(st.new (.cells L5 0)).next:=by simp
 have K5:Keep st.next [] st s5:=x05.keepB (zlr _)
 have plain:readT (t::r)=zcD [] (t::r)→(∀ y,zfm cc zan v st.next (st.new (.cells L5 0)).next 0 1 2 s5=some y→cc 52 [v] st=some y)→RdR st.next ln 0 st (cc 52 [v] st) (readT (t::r)):=by
  intro hr step
  rw [hr]
  have ht:=zpe (B:=st.next) (s:=s5) hhi (zlr _) hlb a5.lt (x05.ll hll) h5 hl a5 ⟨_,b5,rfl⟩
  exact RdR.to ht K5 step
 by_cases hk:t.kd=1
 ·have hk':(t.kd:Int)=1:=by omega
  have hl1:=hl.tail (by omega)
  obtain ⟨u,r',rfl⟩:=hl1.lin.ne
  have c8:=zkM h5 hl1.head [58]
  have c8':cc 81 [v,.int .i64 1,.int .i64 3,.string ⟨#[58]⟩] s5=some (.bool (zaA u [58]),s5):=c8
  by_cases hc:zaA u [58]=true
  ·rw [hc] at c8'
   have hoff:readT (t::u::r')=offE 2 (zcD t.tx r'):=by
    rw [zev,if_pos ⟨hk,hc⟩]
    cases zcD t.tx r'<;>rfl
   rw [hoff]
   have hl2:=hl1.tail (by have:=zbN hc;omega)
   obtain ⟨s12,e12,a12,m12,n12⟩:=a5.sto (k:=1) (vs:=[.string (mkS t.tx)]) (row':=[.int .i64 ln,.string (mkS t.tx),.string ⟨#[]⟩,.slice none 0 0,.slice none 0 0]) rfl rfl
   have b12:=b5.mod m12 (by simp)
   have h12:=h5.keepB (m12.keepB (zlr _)) (by simp at n5;omega) (by simp;omega)
   have K12:=K5.thenI m12 x05.next (.inl (by simp))
   have ht:=zpe (B:=st.next) (s:=s12) (i:=2) hhi (zlr _) hlb a12.lt (K12.ll hll) h12 hl2 a12 ⟨_,b12,rfl⟩
   refine RdR.to (RdR.off ht) K12 fun y hy=>?_
   refine zdG v st ?_
   simp only [zdn,e',zob,q3,zaa,e5',k0,zdt hk',zct,c8',zaf,k1,zab,e12]
   exact hy
  ·have hc':zaA u [58]=false:=Bool.eq_false_iff.2 hc
   rw [hc'] at c8'
   refine plain (by rw [zev,if_neg (fun x=>hc x.2)]) fun y hy=>?_
   refine zdG v st ?_
   simp only [zdn,e',zob,q3,zaa,e5',k0,zdt hk',zct,c8',zaf,zcf]
   exact hy
 ·have hk':¬ (t.kd:Int)=1:=by omega
  refine plain ?_ fun y hy=>?_
  ·cases r with
   | nil=>rfl
   | cons u r'=>rw [zev,if_neg (fun x=>hk x.1)]
  ·refine zdG v st ?_
   simp only [zdn,e',zob,q3,zaa,e5',k0,zdf hk',zcf]
   exact hy
end Go.Proofs.YtifploedaacedaaGreatDoorE
namespace Go.Proofs.YtifploedaacedaaGreatDoorE
open Go Go.E Go.Proofs
def zqf (B b0:Nat) (st:SS) (its:List Item) (r:Option (Nat×List Value×SS)):Except (Nat×Nat) (List PLine)→Prop
 | .ok xs=>∃ v st' m its',r=some (0,[ptr b0 0,v],st')∧Keep B [] st st'∧its'.map (·.1)=its.map (·.1)++xs∧Coll st' b0 m B v its'
 | .error e=>∃ st',r=some (1,[.slice none 0 0,ptr b0 0],st')∧Keep B [b0] st st'∧At st' b0 [.int .i64 e.1,.int .i64 e.2]
theorem Keep.toExt {B:Nat} {a b:SS} (h:Keep B [] a b) (hB:a.next≤B):Ext a b:=(h.mod hB).toExt
theorem zpO [Sym] {b0 B:Nat} {w:Value} (hb0:b0<B) (all:List (List UInt8)) (hall:all.length≤65537) (hsz:∀ p∈all,p.length≤65536):∀ (ps:List (List UInt8)) (i m:Nat) (out:Value) (its:List Item) (tss:List (List Tok)) (st:SS),all.drop i=ps→i≤all.length→zci i ps=.ok tss→
  RdB st b0 B w (strs all) 1 all.length→st.lim≤st.next→Coll st b0 m B out its→(∃ r,At st b0 r∧r.length=2)→B≤st.next→its.length≤i→
  zqf B b0 st its (zaS 6 [ptr b0 0,out,w,.int .i64 all.length,.int .i64 i] st) (zbQ i tss):=by
 intro ps
 induction ps with
 | nil=>
   intro i m out its tss st hd hi hx hw hll hc ha hB hn
   rw [List.drop_eq_nil_iff] at hd
   cases hx
   have hlt:¬ (i:Int)<(all.length:Int):=by omega
   refine ⟨out,st,m,its,zb3 _ out w _ _ st ?_,.refl _,by simp,hc⟩
   simp only [zbT,zdf hlt,zcf]
 | cons p r ih=>
   intro i m out its tss st hd hi hx hw hll hc ha hB hn
   have hgp:all[i]?=some p:=by
    have:=congrArg (·[0]?) hd
    simpa using this
   have hlt:i<all.length:=(List.getElem?_eq_some_iff.1 hgp).1
   have hpl:=hsz p (zmg hgp)
   have hr:all.drop (i+1)=r:=by
    have:=drop_cons hgp
    rw [hd] at this
    exact (List.cons.inj this).2.symm
   have hlt':(i:Int)<(all.length:Int):=by omega
   unfold zci at hx
   cases hy:zbV p with
   | error c=>rw [hy] at hx;cases hx
   | ok ts=>
     rw [hy] at hx
     cases hz:zci (i+1) r with
     | error e=>rw [hz] at hx;cases hx
     | ok tss'=>
       rw [hz] at hx
       cases hx
       obtain ⟨hlin,htok⟩:=zl3 hy
       have hlen:=zkB p ts hy
       obtain ⟨q,hq1,hq2,hq3⟩:=hw.1.load (j:=(i:Int)) (by omega) hlt' (strs_get _ i p hgp) rfl
       have hld:(st.ld q.1 q.2).bind asS=some (mkS p):=by
        have:=hq3 0 (by omega)
        rw [Nat.add_zero] at this
        rw [this];rfl
       have h1:=zo4 hll (mkS p) (by simp;omega) ((i+1:Nat):Int)
       rw [zbJ,hy] at h1
       obtain ⟨v5,s4,c4,x4,o4,_⟩:=h1
       have c4':cc 51 [.string (mkS p),.int .i64 ((i+1:Nat):Int)] st=some (.tuple #[v5,.int .i64 0],s4):=c4
       have hT:RT s4 v5 (ts.map fun t=>(i+1,t)) s4.next:=by
        refine ⟨?_,fun j k l q hv=>?_,by simp;omega⟩
        ·rw [znZ];simpa using o4.rd
        ·obtain ⟨_,⟨ev,_⟩ | ⟨i',ev,_,_,hbi,hi'⟩⟩:=o4
         ·rw [ev] at hv;cases hv
         ·rw [ev] at hv;cases hv;exact hi'
       have h2:=zuw (x4.ll hll) (zlr _) hT hlin htok
       have hw1:IntKind.wrap .i64 ((i:Int)+1)=((i+1:Nat):Int):=za6 (by omega)
       have hpos:0<ts.length:=by obtain ⟨t,u,rfl⟩:=hlin.ne;simp
       have hlv:(lenV v5).bind (asI .i64)=some (ts.length:Int):=by rw [o4.rd.len];rfl
       have hlim:st.lim≤B:=by obtain ⟨_,a,_⟩:=ha;have:=a.2.2;omega
       unfold zbQ
       cases hu:readT ts with
       | error o=>
         rw [hu] at h2
         obtain ⟨s7,row,c7,K7,hrow,hrow1⟩:=h2
         have x7:Ext s4 s7:=Keep.toExt K7 (zlr _)
         have c7':cc 52 [v5] s4=some (.tuple #[.agg row.toArray,.int .i64 (o:Nat)],s7):=by rw [Nat.zero_add] at c7;exact c7
         have hoff:=zn0 ts hlin o hu
         obtain ⟨t,ht⟩:∃ t,ts[o]?=some t:=⟨_,zge hoff⟩
         obtain ⟨s11,e11,a11,x11,_⟩:=zaQ (st:=s7) ((x4.trans x7).ll hll) (r:=L5) (zaJ row) (n:=5) hrow hrow1 rfl
         have x:=(x4.trans x7).trans x11
         obtain ⟨z,g1,g2⟩:=hT.at' (i:=o) (t:=(i+1,t)) (by rw [List.getElem?_map,ht];rfl)
         obtain ⟨_,_,_,_,g5⟩:=g2 s11 (hT.ext (x7.trans x11))
         obtain ⟨ra,aa,hra⟩:=ha
         obtain ⟨s15,e15,a15,m15,_⟩:=(aa.ext x).sto (k:=0) (vs:=[.int .i64 ((i+1:Nat):Int),.int .i64 t.col]) (row':=[.int .i64 ((i+1:Nat):Int),.int .i64 t.col]) rfl (by rw [zbB (by simp;omega)];simp [hra])
         have hcol:zmV ts o=t.col:=by unfold zmV;rw [ht];rfl
         have hpos':(0:Int)≤((o:Nat):Int):=by omega
         refine ⟨s15,zb3 _ out w _ _ st ?_,(x.keepB hB).thenI m15 (zlt hB x.next) (.inr (by simp)),by rw [hcol];exact a15⟩
         simp only [zbT,zdt hlt',zct,hq1,zob,hld,hw1,c4',zal,List.getElem?_toArray,zgs,zgz,zaa,c7',e11,zdt hpos',g1,g5,zad,e15]
       | ok x=>
         rw [hu] at h2
         obtain ⟨s7,av,pv,c7,K7,o1,o2⟩:=h2
         have x7:Ext s4 s7:=Keep.toExt K7 (zlr _)
         obtain ⟨s11,e11,a11,x11,_⟩:=zaQ (st:=s7) ((x4.trans x7).ll hll) (r:=L5) (zaJ [.int .i64 ((i+1:Nat):Int),.string (mkS x.lab),.string (mkS x.dir),av,pv]) (n:=5) rfl (by simp only [List.all_cons,List.all_nil,o1.cell.2,o2.cell.2];rfl) rfl
         have e11':(s7.new (.cells L5 0)).stV s7.next 0 5 (zk4 (i+1) x av pv)=some s11:=e11
         have xx:=(x4.trans x7).trans x11
         have hc11:=hc.ext xx
         have nx11:B≤s11.next:=zlt hB xx.next
         have ha11:∃ r,At s11 b0 r∧r.length=2:=by obtain ⟨ra,aa,hra⟩:=ha;exact ⟨ra,aa.ext xx,hra⟩
         have hw11:RdB s11 b0 B w (strs all) 1 all.length:=hw.go (zlr _) xx.next fun j hj _ _=>xx.keep j hj
         have hneg:¬ (0:Int)≤ -1:=by omega
         have hb4:b0<s4.next:=by have:=x4.next;omega
         by_cases hkp:1<ts.length
         ·have hkp':(1:Int)<(ts.length:Int):=by omega
          have w1:RdB s11 b0 s11.next av (rowsF valRow x.args) 3 x.args.length:=(Own.rdB o1 hb4 (zlr _)).go x11.next x11.next fun j hj _ _=>x11.keep j hj
          have w2:RdB s11 b0 s11.next pv (rowsF prRow x.prs) 5 x.prs.length:=(Own.rdB o2 hb4 (zlr _)).go x11.next x11.next fun j hj _ _=>x11.keep j hj
          have hnew:∀ u:Value,(∀ j k l q,u=.slice (some ⟨j,k,none⟩) l q→st.next≤j)→∀ j k l q k' l' q',out=.slice (some ⟨j,k,none⟩) l q→u≠.slice (some ⟨j,k',none⟩) l' q':=by
           intro u hu' j k l q k' l' q' ho he
           have h1:=hu' j k' l' q' he
           obtain ⟨_,⟨ev,_⟩ | ⟨i',ev,_,_,hbi,hi'⟩⟩:=hc.own
           ·rw [ev] at ho;cases ho
           ·rw [ev] at ho;cases ho;omega
          have hown:∀ {u:Value} {c:List Value} {z n:Nat},Own s4.next s7 u c z n→∀ j k l q,u=.slice (some ⟨j,k,none⟩) l q→st.next≤j:=by
           intro u c z n ho j k l q hv
           have:=x4.next
           obtain ⟨_,⟨ev,_⟩ | ⟨i',ev,_,_,hbi,hi'⟩⟩:=ho
           ·rw [ev] at hv;cases hv
           ·rw [ev] at hv;cases hv;omega
          obtain ⟨out',s21,g1,g2,g3⟩:=hc11.push ({ x with ln:=i+1 },av,pv) nx11 (by rw [xx.lim];exact hlim) (by omega) o1.cell.2 o2.cell.2 w1 w2 (hnew av (hown o1)) (hnew pv (hown o2))
          have g1':(s11.new (.cells ([.int .i64 ((i+1:Nat):Int),.string (mkS x.lab),.string (mkS x.dir),av,pv]++[]) 5)).app 5 88 out (.slice (some ⟨s11.next,0,none⟩) 1 1)=some (out',s21):=g1
          have K21:Keep B [] st s21:=(xx.keepB hB).then (g3 _)
          have ha21:∃ r,At s21 b0 r∧r.length=2:=by obtain ⟨ra,aa,hra⟩:=ha11;exact ⟨ra,aa.keepB (g3 []) hb0 (by simp),hra⟩
          have hw21:RdB s21 b0 B w (strs all) 1 all.length:=hw11.go (zlr _) (g3 []).next fun j _ _ hjB=>(g3 []).keep j hjB (by simp)
          have next:=ih (i+1) s11.next out' (its++[({ x with ln:=i+1 },av,pv)]) tss' s21 hr (by omega) hz hw21 (K21.ll hll) g2 ha21 (zlt hB K21.next) (by simp;omega)
          have l18:s11.ldN s7.next 0 5=some (.agg [.int .i64 ((i+1:Nat):Int),.string (mkS x.lab),.string (mkS x.dir),av,pv].toArray):=a11.ldN rfl
          have hc19:zaE (.agg [.int .i64 ((i+1:Nat):Int),.string (mkS x.lab),.string (mkS x.dir),av,pv].toArray) 5=some [.int .i64 ((i+1:Nat):Int),.string (mkS x.lab),.string (mkS x.dir),av,pv]:=cells5 _ _ _ _ _
          have step:∀ z,zaS 6 [ptr b0 0,out',w,.int .i64 all.length,.int .i64 ((i+1:Nat):Int)] s21=some z→zaS 6 [ptr b0 0,out,w,.int .i64 all.length,.int .i64 i] st=some z:=fun z hz=>by
           refine zb3 _ out w _ _ st ?_
           simp only [zbT,zdt hlt',zct,hq1,zob,hld,hw1,c4',zal,List.getElem?_toArray,zgs,zgz,zaa,c7,e11',zdf hneg,zcf,hlv,zdt hkp',l18,hc19,g1']
           exact hz
          simp only
          cases hv:zbQ (i+1) tss' with
          | error e=>
            rw [hv] at next
            obtain ⟨st',a,k',d⟩:=next
            exact ⟨st',step _ a,(K21.mono (zlr _) (fun j hj _=>by cases hj)).then k',d⟩
          | ok xs=>
            rw [hv] at next
            obtain ⟨v2,st',m',its2,a,k',d,e⟩:=next
            refine ⟨v2,st',m',its2,step _ a,K21.then k',?_,e⟩
            rw [d];simp [hkp]
         ·have hkp':¬ (1:Int)<(ts.length:Int):=by omega
          have K11:Keep B [] st s11:=xx.keepB hB
          have next:=ih (i+1) m out its tss' s11 hr (by omega) hz hw11 (xx.ll hll) hc11 ha11 nx11 (by omega)
          have step:∀ z,zaS 6 [ptr b0 0,out,w,.int .i64 all.length,.int .i64 ((i+1:Nat):Int)] s11=some z→zaS 6 [ptr b0 0,out,w,.int .i64 all.length,.int .i64 i] st=some z:=fun z hz=>by
           refine zb3 _ out w _ _ st ?_
           simp only [zbT,zdt hlt',zct,hq1,zob,hld,hw1,c4',zal,List.getElem?_toArray,zgs,zgz,zaa,c7,e11',zdf hneg,zcf,hlv,zdf hkp']
           exact hz
          simp only
          cases hv:zbQ (i+1) tss' with
          | error e=>
            rw [hv] at next
            obtain ⟨st',a,k',d⟩:=next
            exact ⟨st',step _ a,(K11.mono (zlr _) (fun j hj _=>by cases hj)).then k',d⟩
          | ok xs=>
            rw [hv] at next
            obtain ⟨v2,st',m',its2,a,k',d,e⟩:=next
            refine ⟨v2,st',m',its2,step _ a,K11.then k',?_,e⟩
            rw [d];simp [hkp]
def RParR (st:SS) (r:Option (Value×SS)):Except (Nat×Nat) (List PLine)→Prop
 | .ok xs=>∃ v st',r=some (.tuple #[v,zbj (0,0)],st')∧Ext st st'∧ziX st' v xs
 | .error e=>∃ st',r=some (.tuple #[.slice none 0 0,zbj e],st')∧Ext st st'
theorem zsn [Sym] {st:SS} (hl:st.lim≤st.next) (s:ByteArray) (hs:s.size≤65536):RParR st (cc 19 [.string s] st) (zfc (bl s)):=by
 have a1:At (st.new (.cells [.int .i64 0,.int .i64 0] 0)) st.next [.int .i64 0,.int .i64 0]:=At.new hl _
 have x1:Ext st (st.new (.cells [.int .i64 0,.int .i64 0] 0)):=(Ext.refl st).new _
 have hlex:=zui (x1.ll hl) s (by omega)
 have hlx:zl0 (bl s)=match zci 0 (pieces 10 (bl s)) with
  | .error e=>.error e
  | .ok tss=>.ok (flat 0 tss):=zmW _ _
 unfold zfc
 have hb0:Nat.beq 0 0=true:=rfl
 have hb1:Nat.beq 1 0=false:=rfl
 cases hy:zci 0 (pieces 10 (bl s)) with
 | error e=>
   rw [hy] at hlx
   rw [hlx] at hlex
   obtain ⟨s2,c2,x2⟩:=hlex
   have c2':cc 49 [.string s] (st.new (.cells [.int .i64 0,.int .i64 0] 0))=some (.tuple #[.slice none 0 0,zbj e],s2):=c2
   obtain ⟨s7,e7,a7,x7,_⟩:=zaQ (st:=s2) ((x1.trans x2).ll hl) (r:=[.int .i64 0,.int .i64 0]) (v:=zbj e) (row:=[.int .i64 e.1,.int .i64 e.2]) (n:=2) rfl rfl rfl rfl
   have a17:=(a1.ext x2).ext x7
   obtain ⟨s9,f1,f2,f3,f4,f5⟩:=za9 (n:=2) a17 rfl a7 rfl rfl
   have hpos:=zrY (pieces 10 (bl s)) 0 e (show zdg 0 (pieces 10 (bl s))=.error e from hlx)
   have hpos':(0:Int)<(e.1:Int):=by omega
   have l8:s7.ld s2.next 0=some (.int .i64 e.1):=a7.ld
   refine ⟨s9,zdz s st ?_,((Mod.ofExt (S:=[st.next]) ((x1.trans x2).trans x7)).then f4).fresh (by simp)⟩
   simp only [zc4,c2',zob,zal,List.getElem?_toArray,zgs,zgz,e7,zo6,l8,zaa,zdt hpos',zct,f1,f2,f3]
   rfl
 | ok tss=>
   rw [hy] at hlx
   rw [hlx] at hlex
   obtain ⟨v,s2,c2,x2,o2⟩:=hlex
   have c2':cc 49 [.string s] (st.new (.cells [.int .i64 0,.int .i64 0] 0))=some (.tuple #[v,zbj (0,0)],s2):=c2
   obtain ⟨s7,e7,a7,x7,_⟩:=zaQ (st:=s2) ((x1.trans x2).ll hl) (r:=[.int .i64 0,.int .i64 0]) (v:=zbj (0,0)) (row:=[.int .i64 0,.int .i64 0]) (n:=2) rfl rfl rfl rfl
   have x07:=(x1.trans x2).trans x7
   have l8:s7.ld s2.next 0=some (.int .i64 0):=a7.ld
   obtain ⟨w,s12,c12,x12,o12⟩:=zrN s 10 (by omega) s7 (x07.ll hl)
   have c12':cc 50 [.string s,.int .u8 10] s7=some (w,s12):=c12
   have hlw:(lenV w).bind (asI .i64)=some ((pieces 10 (bl s)).length:Int):=by rw [o12.rd.len];rfl
   have hplen:=pieces_len 10 (bl s)
   rw [zaF] at hplen
   have hpm:=zfR 10 (bl s)
   rw [zaF] at hpm
   have a12:=((a1.ext x2).ext x7).ext x12
   have hn7:st.next<s7.next:=by have:=x2.next;have:=x7.next;simp at*;omega
   have hloop:=zpO (b0:=st.next) (B:=s12.next) (w:=w) (by have:=x12.next;omega) (pieces 10 (bl s)) (by omega) (fun p hp=>by have:=hpm p hp;omega) (pieces 10 (bl s)) 0 s12.next (.slice none 0 0) [] tss s12 (by simp) (by omega) hy
    (Own.rdB o12 hn7 (zlr _)) ((x07.trans x12).ll hl) ⟨Own.nil _ _ _,fun j k l q hv=>(by cases hv),fun x hx=>(by cases hx),by have:=x12.next;omega,zlr _⟩ ⟨_,a12,rfl⟩ (zlr _) (by simp)
   have hloop':zqf s12.next st.next s12 [] (zaS 6 [ptr st.next 0,.slice none 0 0,w,.int .i64 (pieces 10 (bl s)).length,.int .i64 0] s12) (zbQ 0 tss):=hloop
   have h00:¬ (0:Int)<0:=by omega
   show RParR st _ (zbQ 0 tss)
   cases hz:zbQ 0 tss with
   | error e=>
     rw [hz] at hloop'
     obtain ⟨s13,d1,d2,d3⟩:=hloop'
     have hr:=d3.rdN (n:=2) rfl
     have x13:Ext st s13:=((Mod.ofExt (S:=[st.next]) (x07.trans x12)).then (d2.mod (zlr _))).fresh (by simp)
     refine ⟨s13,zdz s st ?_,x13⟩
     simp only [zc4,c2',zob,zal,List.getElem?_toArray,zgs,zgz,e7,zo6,l8,zaa,zdf h00,zcf,c12',hlw,d1,hb1,zad,hr]
     rfl
   | ok xs=>
     rw [hz] at hloop'
     obtain ⟨u,s13,m,its,d1,d2,d3,d4⟩:=hloop'
     have a13:=a12.keepB d2 a12.lt (by simp)
     obtain ⟨s17,e17,a17,m17,n17⟩:=a13.sto (k:=0) (vs:=[.int .i64 0,.int .i64 0]) (row':=[.int .i64 0,.int .i64 0]) rfl rfl
     have hr:=a17.rdN (n:=2) rfl
     have d4':=d4.keep (m17.keepB (zlr _))
     have x17:Ext st s17:=((Mod.ofExt (S:=[st.next]) (x07.trans x12)).then ((d2.mod (zlr _)).mono (by simp)) |>.then m17).fresh (by simp)
     refine ⟨u,s17,zdz s st ?_,x17,?_⟩
     ·simp only [zc4,c2',zob,zal,List.getElem?_toArray,zgs,zgz,e7,zo6,l8,zaa,zdf h00,zcf,c12',hlw,d1,hb0,zct,zad,e17,hr]
      rfl
     ·have:=d4'.lines
      rw [d3] at this
      simpa using this
end Go.Proofs.YtifploedaacedaaGreatDoorE
namespace Go.Proofs.YtifploedaacedaaGreatDoorE
set_option maxRecDepth 20000
open Go Go.E Go.Proofs
noncomputable def zc5 (cf:zak) (lf:zac) (b':Value) (name':ByteArray) (x':Int) (st:SS):Option (Value×SS):=
 (zav b').bind fun a=>
 (addr? a).bind fun b=>
 (st.ld b.1 (b.2+1)).bind fun c=>
 (st.mapF c name').bind fun d=>
 zfI d (
 cond (eqT name' ⟨#[]⟩) (
 some (.bool false,st)) (
 (zav b').bind fun e=>
 (addr? e).bind fun f=>
 (st.ld f.1 (f.2+1)).bind fun g=>
 (st.mapP g name' (.int .i64 x')).bind fun h=>
 some (.bool true,h))) (fun i=>
 ((zal (.tuple #[i,.bool true]) 0).bind (asI .i64)).bind fun j=>
 some (.bool false,st))
noncomputable abbrev zis:zac:=lS Tryz.prog Lk0 Tryz.f70 zaG
theorem zit:Lk0.func 70=some (70,Tryz.f70):=by kernel_rfl
theorem zdA [Sym] (b':Value) (name':ByteArray) (x':Int) (st:SS) {r:Value×SS} (h:zc5 cc zis b' name' x' st=some r):cc 70 [b',.string name',.int .i64 x'] st=some r:=
 zah (li:=zaG) zai zaq zit rfl (fun _=>rfl) (.trans (by kernel_rfl) h)
noncomputable def zaj (cf:zak) (lf:zac) (b':Value) (l':Value) (st:SS):Option (Value×SS):=
 let a:SS:=st.new (.cells (l':Value).cells.toList 0)
 (a.ld st.next 3).bind fun b=>
 ((lenV b).bind (asI .i64)).bind fun c=>
 cond (decide (c=0)) (
 some (.bool false,a)) (
 (a.ld st.next 3).bind fun d=>
 (zar d 0 3).bind fun e=>
 (a.ldN e.1 e.2 3).bind fun f=>
 let g:SS:=a.new (.cells [.string ⟨#[]⟩,.int .i64 0,.int .i64 0] 0)
 (g.stV a.next 0 3 f).bind fun h=>
 ((h.ld a.next 0).bind asS).bind fun i=>
 ((h.ld st.next 2).bind asS).bind fun j=>
 cond (eqT j ⟨#[111,114,103]⟩) (
 cond (!(eqT i ⟨#[]⟩)) (
 some (.bool false,h)) (
 (h.ld st.next 3).bind fun k=>
 ((lenV k).bind (asI .i64)).bind fun l=>
 cond (decide (1<l)) (
 some (.bool false,h)) (
 ((h.ld a.next 1).bind (asI .i64)).bind fun m=>
 (zav b').bind fun n=>
 (addr? n).bind fun o=>
 ((h.ld o.1 o.2).bind (asI .i64)).bind fun p=>
 cond (decide (m<p)) (
 some (.bool false,h)) (
 ((h.ld a.next 1).bind (asI .i64)).bind fun q=>
 cond (decide (2048<q)) (
 some (.bool false,h)) (
 ((h.ld a.next 1).bind (asI .i64)).bind fun r=>
 (zav b').bind fun s=>
 (addr? s).bind fun t=>
 (h.st t.1 t.2 [.int .i64 r]).bind fun u=>
 some (.bool true,u)))))) (
 cond (eqT j ⟨#[97,108,105,103,110]⟩) (
 cond (!(eqT i ⟨#[]⟩)) (
 some (.bool false,h)) (
 (h.ld st.next 3).bind fun v=>
 ((lenV v).bind (asI .i64)).bind fun w=>
 cond (decide (1<w)) (
 some (.bool false,h)) (
 ((h.ld a.next 1).bind (asI .i64)).bind fun x=>
 cond (decide (x<1)) (
 some (.bool false,h)) (
 ((h.ld a.next 1).bind (asI .i64)).bind fun y=>
 cond (decide (2048<y)) (
 some (.bool false,h)) (
 (zav b').bind fun z=>
 (addr? z).bind fun A=>
 ((h.ld A.1 A.2).bind (asI .i64)).bind fun B=>
 ((h.ld a.next 1).bind (asI .i64)).bind fun C=>
 let D:Int:=IntKind.wrap .i64 (B+C)
 let E:Int:=IntKind.wrap .i64 (D-1)
 ((h.ld a.next 1).bind (asI .i64)).bind fun F=>
 ((aI .quo .i64 E F).bind (asI .i64)).bind fun G=>
 ((h.ld a.next 1).bind (asI .i64)).bind fun H=>
 let I:Int:=IntKind.wrap .i64 (G*H)
 (zav b').bind fun J=>
 (addr? J).bind fun K=>
 (h.st K.1 K.2 [.int .i64 I]).bind fun L=>
 (zav b').bind fun M=>
 (addr? M).bind fun N=>
 ((L.ld N.1 N.2).bind (asI .i64)).bind fun O=>
 some (.bool (decide (O≤2048)),L)))))) (
 cond (eqT j ⟨#[115,101,116]⟩) (
 (h.ld st.next 3).bind fun P=>
 ((lenV P).bind (asI .i64)).bind fun Q=>
 cond (decide (Q=2)) (
 cond (!(eqT i ⟨#[]⟩)) (
 ((h.ld a.next 1).bind (asI .i64)).bind fun R=>
 cond (decide (R=0)) (
 (h.ld st.next 3).bind fun S=>
 (zar S 1 3).bind fun T=>
 ((h.ld T.1 T.2).bind asS).bind fun U=>
 cond (eqT U ⟨#[]⟩) (
 ((h.ld a.next 0).bind asS).bind fun V=>
 (h.ld st.next 3).bind fun W=>
 (zar W 1 3).bind fun X=>
 ((h.ld X.1 (X.2+1)).bind (asI .i64)).bind fun Y=>
 (cf 70 [b',.string V,.int .i64 Y] h).bind fun Z=>
 ((some Z.1).bind asB).bind fun aA=>
 some (.bool aA,Z.2)) (
 some (.bool false,h))) (
 some (.bool false,h))) (
 some (.bool false,h))) (
 some (.bool false,h))) (
 cond (eqT j ⟨#[101,110,116,114,121]⟩) (
 cond (eqT i ⟨#[]⟩) (
 some (.bool false,h)) (
 (h.ld st.next 3).bind fun aB=>
 ((lenV aB).bind (asI .i64)).bind fun aC=>
 cond (decide (1<aC)) (
 some (.bool false,h)) (
 ((h.ld a.next 1).bind (asI .i64)).bind fun aD=>
 cond (!(decide (aD=0))) (
 some (.bool false,h)) (
 (zav b').bind fun aE=>
 (addr? aE).bind fun aF=>
 (h.ld aF.1 (aF.2+4)).bind fun aG=>
 (cf 96 [aG,.func (.func 97) #[] #[ptr a.next 0]] h).bind fun aH=>
 ((some aH.1).bind asB).bind fun aJ=>
 cond aJ (
 some (.bool false,aH.2)) (
 (zav b').bind fun aK=>
 (addr? aK).bind fun aL=>
 (aH.2.ld aL.1 (aL.2+4)).bind fun aM=>
 (aH.2.ldN a.next 0 3).bind fun aN=>
 (zaE aN 3).bind fun aO=>
 let aP:SS:=aH.2.new (.cells (aO++([])) 3)
 (aP.app 3 32 aM (.slice (some ⟨aH.2.next,0,none⟩) 1 1)).bind fun aQ=>
 (zav b').bind fun aR=>
 (addr? aR).bind fun aS=>
 (aQ.2.stV aS.1 (aS.2+4) 1 aQ.1).bind fun aT=>
 (zav b').bind fun aU=>
 (addr? aU).bind fun aV=>
 (aT.ld aV.1 (aV.2+3)).bind fun aW=>
 ((aT.ld st.next 0).bind (asI .i64)).bind fun aX=>
 ((aT.ld a.next 2).bind (asI .i64)).bind fun aY=>
 let aZ:SS:=aT.new (.cells ([.int .i64 aX,.int .i64 aY]) 2)
 (aZ.app 2 16 aW (.slice (some ⟨aT.next,0,none⟩) 1 1)).bind fun bA=>
 (zav b').bind fun bB=>
 (addr? bB).bind fun bC=>
 (bA.2.stV bC.1 (bC.2+3) 1 bA.1).bind fun bD=>
 some (.bool true,bD)))))) (
 some (.bool false,h))))))
noncomputable abbrev zek:zac:=lS Tryz.prog Lk0 Tryz.f71 zaG
theorem zhb:Lk0.func 71=some (71,Tryz.f71):=by kernel_rfl
theorem zaY [Sym] (b':Value) (l':Value) (st:SS) {r:Value×SS} (h:zaj cc zek b' l' st=some r):cc 71 [b',l'] st=some r:=
 zah (li:=zaG) zai zaq zhb rfl (fun _=>rfl) (.trans (by kernel_rfl) h)
noncomputable def zb0 (cf:zak) (lf:zac) (b':Value) (l':Value) (st:SS):Option (Value×SS):=
 let a:SS:=st.new (.cells (l':Value).cells.toList 0)
 ((a.ld st.next 1).bind asS).bind fun b=>
 cond (!(eqT b ⟨#[]⟩)) (
 ((a.ld st.next 1).bind asS).bind fun c=>
 (zav b').bind fun d=>
 (addr? d).bind fun e=>
 ((a.ld e.1 e.2).bind (asI .i64)).bind fun f=>
 (cf 70 [b',.string c,.int .i64 f] a).bind fun g=>
 ((some g.1).bind asB).bind fun h=>
 cond (!h) (
 some (.bool false,g.2)) (
 ((g.2.ld st.next 2).bind asS).bind fun i=>
 cond (!(eqT i ⟨#[]⟩)) (
 (g.2.ldN st.next 0 5).bind fun j=>
 (cf 71 [b',j] g.2).bind fun k=>
 ((some k.1).bind asB).bind fun l=>
 some (.bool l,k.2)) (
 (g.2.ld st.next 4).bind fun m=>
 ((lenV m).bind (asI .i64)).bind fun n=>
 cond (decide (n=0)) (
 some (.bool true,g.2)) (
 (zav b').bind fun o=>
 (addr? o).bind fun p=>
 (g.2.ld p.1 (p.2+2)).bind fun q=>
 (zav b').bind fun r=>
 (addr? r).bind fun s=>
 ((g.2.ld s.1 s.2).bind (asI .i64)).bind fun t=>
 (g.2.ldN st.next 0 5).bind fun u=>
 (zaE u 5).bind fun v=>
 (zaE (.agg ⟨spl [.int .i64 t,.int .i64 0,.string ⟨#[]⟩,.string ⟨#[]⟩,.slice none 0 0,.slice none 0 0] 1 v⟩) 6).bind fun w=>
 let x:SS:=g.2.new (.cells (w++([])) 6)
 (x.app 6 96 q (.slice (some ⟨g.2.next,0,none⟩) 1 1)).bind fun y=>
 (zav b').bind fun z=>
 (addr? z).bind fun A=>
 (y.2.stV A.1 (A.2+2) 1 y.1).bind fun B=>
 (zav b').bind fun C=>
 (addr? C).bind fun D=>
 ((B.ld D.1 D.2).bind (asI .i64)).bind fun E=>
 let F:Int:=IntKind.wrap .i64 (E+1)
 (zav b').bind fun G=>
 (addr? G).bind fun H=>
 (B.st H.1 H.2 [.int .i64 F]).bind fun I=>
 (zav b').bind fun J=>
 (addr? J).bind fun K=>
 ((I.ld K.1 K.2).bind (asI .i64)).bind fun L=>
 some (.bool (decide (L≤2048)),I))))) (
 ((a.ld st.next 2).bind asS).bind fun M=>
 cond (!(eqT M ⟨#[]⟩)) (
 (a.ldN st.next 0 5).bind fun N=>
 (cf 71 [b',N] a).bind fun O=>
 ((some O.1).bind asB).bind fun P=>
 some (.bool P,O.2)) (
 (a.ld st.next 4).bind fun Q=>
 ((lenV Q).bind (asI .i64)).bind fun R=>
 cond (decide (R=0)) (
 some (.bool true,a)) (
 (zav b').bind fun S=>
 (addr? S).bind fun T=>
 (a.ld T.1 (T.2+2)).bind fun U=>
 (zav b').bind fun V=>
 (addr? V).bind fun W=>
 ((a.ld W.1 W.2).bind (asI .i64)).bind fun X=>
 (a.ldN st.next 0 5).bind fun Y=>
 (zaE Y 5).bind fun Z=>
 (zaE (.agg ⟨spl [.int .i64 X,.int .i64 0,.string ⟨#[]⟩,.string ⟨#[]⟩,.slice none 0 0,.slice none 0 0] 1 Z⟩) 6).bind fun aA=>
 let aB:SS:=a.new (.cells (aA++([])) 6)
 (aB.app 6 96 U (.slice (some ⟨a.next,0,none⟩) 1 1)).bind fun aC=>
 (zav b').bind fun aD=>
 (addr? aD).bind fun aE=>
 (aC.2.stV aE.1 (aE.2+2) 1 aC.1).bind fun aF=>
 (zav b').bind fun aG=>
 (addr? aG).bind fun aH=>
 ((aF.ld aH.1 aH.2).bind (asI .i64)).bind fun aI=>
 let aJ:Int:=IntKind.wrap .i64 (aI+1)
 (zav b').bind fun aK=>
 (addr? aK).bind fun aL=>
 (aF.st aL.1 aL.2 [.int .i64 aJ]).bind fun aM=>
 (zav b').bind fun aN=>
 (addr? aN).bind fun aO=>
 ((aM.ld aO.1 aO.2).bind (asI .i64)).bind fun aP=>
 some (.bool (decide (aP≤2048)),aM))))
noncomputable abbrev zdH:zac:=lS Tryz.prog Lk0 Tryz.f43 zaG
theorem zi1:Lk0.func 43=some (43,Tryz.f43):=by kernel_rfl
theorem zb1 [Sym] (b':Value) (l':Value) (st:SS) {r:Value×SS} (h:zb0 cc zdH b' l' st=some r):cc 43 [b',l'] st=some r:=
 zah (li:=zaG) zai zaq zi1 rfl (fun _=>rfl) (.trans (by kernel_rfl) h)
noncomputable def zcm (cf:zak) (lf:zac) (b':Value) (field':ByteArray) (v':Value) (st:SS):Option (Value×SS):=
 let a:SS:=(st.ro st.next).new (.cells (v':Value).cells.toList 0)
 ((a.ld ((st.ro st.next).next) 0).bind asS).bind fun b=>
 cond (eqT b ⟨#[]⟩) (
 ((a.ld ((st.ro st.next).next) 1).bind (asI .i64)).bind fun c=>
 some (.tuple #[.int .i64 c,.bool true],st.adv a.next)) (
 (cf 117 [.string field'] (a.ro a.next)).bind fun d=>
 (((d.2.ro a.lim).ld ((st.ro st.next).next) 0).bind asS).bind fun e=>
 (cf 116 [d.1,.string e] (d.2.ro a.lim)).bind fun f=>
 ((some f.1).bind (asI .i64)).bind fun g=>
 cond (decide (0≤g)) (
 ((f.2.ld ((st.ro st.next).next) 1).bind (asI .i64)).bind fun h=>
 let i:Int:=IntKind.wrap .i64 (g+h)
 some (.tuple #[.int .i64 i,.bool true],st.adv f.2.next)) (
 (zav b').bind fun j=>
 (addr? j).bind fun k=>
 (f.2.ld k.1 (k.2+1)).bind fun l=>
 ((f.2.ld ((st.ro st.next).next) 0).bind asS).bind fun m=>
 (f.2.mapF l m).bind fun n=>
 zfI n (
 ((f.2.ld ((st.ro st.next).next) 1).bind (asI .i64)).bind fun o=>
 let p:Int:=IntKind.wrap .i64 (0+o)
 some (.tuple #[.int .i64 p,.bool false],st.adv f.2.next)) (fun q=>
 ((zal (.tuple #[q,.bool true]) 0).bind (asI .i64)).bind fun r=>
 ((f.2.ld ((st.ro st.next).next) 1).bind (asI .i64)).bind fun s=>
 let t:Int:=IntKind.wrap .i64 (r+s)
 some (.tuple #[.int .i64 t,.bool true],st.adv f.2.next))))
noncomputable abbrev ziu:zac:=lS Tryz.prog Lk0 Tryz.f99 zaG
theorem ziv:Lk0.func 99=some (99,Tryz.f99):=by kernel_rfl
theorem zcy [Sym] (b':Value) (field':ByteArray) (v':Value) (st:SS) {r:Value×SS} (h:zcm cc ziu b' field' v' st=some r):cc 99 [b',.string field',v'] st=some r:=
 zah (li:=zaG) zai zaq ziv rfl (fun _=>rfl) (.trans (by kernel_rfl) h)
def zeO:LoopI:=⟨[(0,.any),(4,.any),(6,.any),(13,.any),(14,.int .i64),(15,.int .i64)],[(.exit 0,[(4,.any),(6,.any)]),(.ret,[(4,.any),(5,.int .i64)])]⟩
def ze8 (n:Nat):Option LoopI:=cond (Nat.beq n 3) (some zeO) (none)
noncomputable def zee (cf:zak) (lf:zac) (b':Value) (l':Value) (st:SS):Option (Value×SS):=
 let a:SS:=(st.ro st.next).new (.cells (l':Value).cells.toList 0)
 let b:SS:=a.new (.cells [.int .i64 0,.int .i64 0,.int .i64 0,.int .i64 0,.int .i64 0,.int .i64 0,.int .i64 0,.int .i64 0,.int .i64 0,.int .i64 0,.int .i64 0,.int .i64 0] 0)
 let c:SS:=b.new (.cells [.int .i64 0,.int .i64 0,.int .i64 0,.int .i64 0,.int .i64 0,.int .i64 0,.int .i64 0,.int .i64 0,.int .i64 0,.int .i64 0,.int .i64 0,.int .i64 0] 0)
 (c.ld ((st.ro st.next).next) 4).bind fun d=>
 ((lenV d).bind (asI .i64)).bind fun e=>
 (lf 3 [b',ptr a.next 0,ptr b.next 0,d,.int .i64 e,.int .i64 0] c).bind fun f=>
 cond (Nat.beq f.1 0) (
 (f.2.1[0]?).bind fun g=>
 (f.2.1[1]?).bind fun h=>
 (addr? h).bind fun i=>
 (f.2.2.ldN i.1 i.2 12).bind fun j=>
 (addr? g).bind fun k=>
 (f.2.2.stV k.1 k.2 12 j).bind fun l=>
 (addr? g).bind fun m=>
 (l.rdN m.1 m.2 12).bind fun n=>
 cond (flat3 (.tuple #[n,.int .i64 0])) (some (.tuple #[n,.int .i64 0],st.adv l.next)) none) (
 (f.2.1[0]?).bind fun o=>
 ((f.2.1[1]?).bind (asI .i64)).bind fun p=>
 (addr? o).bind fun q=>
 (f.2.2.rdN q.1 q.2 12).bind fun r=>
 cond (flat3 (.tuple #[r,.int .i64 p])) (some (.tuple #[r,.int .i64 p],st.adv f.2.2.next)) none)
noncomputable abbrev zaT:zac:=lS Tryz.prog Lk0 Tryz.f72 ze8
theorem ziw:Lk0.func 72=some (72,Tryz.f72):=by kernel_rfl
theorem ze9 [Sym] (b':Value) (l':Value) (st:SS) {r:Value×SS} (h:zee cc zaT b' l' st=some r):cc 72 [b',l'] st=some r:=
 zah (li:=ze8) zai zaq ziw rfl (fun _=>rfl) (.trans (by kernel_rfl) h)
noncomputable def zbu (cf:zak) (lf:zac) (b':Value) (t4':Value) (w':Value) (t13':Value) (t14':Int) (t15':Int) (st:SS):Option (Nat×List Value×SS):=
 cond (decide (t15'<t14')) (
 (zar t13' t15' 5).bind fun a=>
 (st.ldN a.1 a.2 5).bind fun b=>
 let c:SS:=st.new (.cells [.string ⟨#[]⟩,.int .i64 0,.string ⟨#[]⟩,.int .i64 0,.int .i64 0] 0)
 (c.stV st.next 0 5 b).bind fun d=>
 ((d.ld st.next 0).bind asS).bind fun e=>
 (cf 98 [.string e] d).bind fun f=>
 ((some f.1).bind (asI .i64)).bind fun g=>
 cond (decide (g=0)) (
 (addr? w').bind fun h=>
 (f.2.ldN h.1 h.2 12).bind fun i=>
 ((f.2.ld st.next 1).bind (asI .i64)).bind fun j=>
 cond (zbU (ptr st.next 1) t4') (
 (addr? t4').bind fun k=>
 (f.2.stV k.1 k.2 12 i).bind fun l=>
 some (1,[t4',.int .i64 j],l)) (
 none)) (
 ((f.2.ld st.next 0).bind asS).bind fun m=>
 (f.2.ldN st.next 2 3).bind fun n=>
 (cf 99 [b',.string m,n] f.2).bind fun o=>
 ((zal o.1 0).bind (asI .i64)).bind fun p=>
 ((zal o.1 1).bind asB).bind fun q=>
 (addr? w').bind fun r=>
 (o.2.ldN r.1 r.2 12).bind fun s=>
 ((o.2.ld st.next 0).bind asS).bind fun t=>
 (cf 100 [s,.string t,.int .i64 p] o.2).bind fun u=>
 (zal u.1 0).bind fun v=>
 ((zal u.1 1).bind (asI .i64)).bind fun w=>
 (addr? w').bind fun x=>
 (u.2.stV x.1 x.2 12 v).bind fun y=>
 cond (!q) (
 (addr? w').bind fun z=>
 (y.ldN z.1 z.2 12).bind fun A=>
 ((y.ld st.next 4).bind (asI .i64)).bind fun B=>
 cond (zbU (ptr st.next 4) t4') (
 (addr? t4').bind fun C=>
 (y.stV C.1 C.2 12 A).bind fun D=>
 some (1,[t4',.int .i64 B],D)) (
 none)) (
 cond (!(decide (w=0))) (
 (addr? w').bind fun E=>
 (y.ldN E.1 E.2 12).bind fun F=>
 ((y.ld st.next 4).bind (asI .i64)).bind fun G=>
 cond (zbU (ptr st.next 4) t4') (
 (addr? t4').bind fun H=>
 (y.stV H.1 H.2 12 F).bind fun I=>
 some (1,[t4',.int .i64 G],I)) (
 none)) (
 let J:Int:=IntKind.wrap .i64 (t15'+1)
 lf 3 [b',t4',w',t13',.int .i64 t14',.int .i64 J] y)))) (
 some (0,[t4',w'],st))
theorem zbw [Sym] (b':Value) (t4':Value) (w':Value) (t13':Value) (t14':Int) (t15':Int) (st:SS) {r:Nat×List Value×SS} (h:zbu cc zaT b' t4' w' t13' t14' t15' st=some r):zaT 3 [b',t4',w',t13',.int .i64 t14',.int .i64 t15'] st=some r:=
 zax zai zaq (key:=3) (I:=zeO) rfl (by kernel_rfl) (by kernel_rfl) rfl rfl (.trans (by kernel_rfl) h)
def zm1:LoopI:=⟨[(0,.any),(1,.str),(7,.int .i64),(8,.int .i64)],[(.exit 0,[]),(.ret,[(4,.int .i64)])]⟩
def zn2 (n:Nat):Option LoopI:=cond (Nat.beq n 2) (some zm1) (none)
noncomputable def zso (cf:zak) (lf:zac) (s':Value) (v':ByteArray) (st:SS):Option (Value×SS):=
 ((lenV s').bind (asI .i64)).bind fun a=>
 (lf 2 [s',.string v',.int .i64 a,.int .i64 0] (st.ro st.next)).bind fun b=>
 cond (Nat.beq b.1 0) (
 some (.int .i64 (-1),st.adv b.2.2.next)) (
 ((b.2.1[0]?).bind (asI .i64)).bind fun c=>
 some (.int .i64 c,st.adv b.2.2.next))
noncomputable abbrev zgL:zac:=lS Tryz.prog Lk0 Tryz.f116 zn2
theorem zsp:Lk0.func 116=some (116,Tryz.f116):=by kernel_rfl
theorem zsq [Sym] (s':Value) (v':ByteArray) (st:SS) {r:Value×SS} (h:zso cc zgL s' v' st=some r):cc 116 [s',.string v'] st=some r:=
 zah (li:=zn2) zai zaq zsp rfl (fun _=>rfl) (.trans (by kernel_rfl) h)
noncomputable def zh7 (cf:zak) (lf:zac) (s':Value) (v':ByteArray) (t7':Int) (t8':Int) (st:SS):Option (Nat×List Value×SS):=
 cond (decide (t8'<t7')) (
 (zar s' t8' 1).bind fun a=>
 ((st.ld a.1 a.2).bind asS).bind fun b=>
 cond (eqT v' b) (
 some (1,[.int .i64 t8'],st)) (
 let c:Int:=IntKind.wrap .i64 (t8'+1)
 lf 2 [s',.string v',.int .i64 t7',.int .i64 c] st)) (
 some (0,[],st))
theorem zkN [Sym] (s':Value) (v':ByteArray) (t7':Int) (t8':Int) (st:SS) {r:Nat×List Value×SS} (h:zh7 cc zgL s' v' t7' t8' st=some r):zgL 2 [s',.string v',.int .i64 t7',.int .i64 t8'] st=some r:=
 zax zai zaq (key:=2) (I:=zm1) rfl (by kernel_rfl) (by kernel_rfl) rfl rfl (.trans (by kernel_rfl) h)
noncomputable def znB (cf:zak) (lf:zac) (s':Value) (q':Nat) (st:SS):Option (Value×SS):=
 (cf 114 [s',.func (.func 97) #[] #[ptr q' 0]] (st.ro st.next)).bind fun a=>
 ((some a.1).bind (asI .i64)).bind fun b=>
 some (.bool (decide (0≤b)),st.adv a.2.next)
noncomputable abbrev zq1:zac:=lS Tryz.prog Lk0 Tryz.f96 zaG
theorem zq2:Lk0.func 96=some (96,Tryz.f96):=by kernel_rfl
theorem zq3 [Sym] (s':Value) (q':Nat) (st:SS) {r:Value×SS} (h:znB cc zq1 s' q' st=some r):cc 96 [s',.func (.func 97) #[] #[ptr q' 0]] st=some r:=
 zah (li:=zaG) zai zaq zq2 rfl (fun _=>rfl) (.trans (by kernel_rfl) h)
def zm2:LoopI:=⟨[(0,.any),(1,.any),(7,.int .i64),(8,.int .i64)],[(.exit 0,[]),(.ret,[(4,.int .i64)])]⟩
def zn3 (n:Nat):Option LoopI:=cond (Nat.beq n 2) (some zm2) (none)
noncomputable def zpf (cf:zak) (lf:zac) (s':Value) (q':Nat) (st:SS):Option (Value×SS):=
 ((lenV s').bind (asI .i64)).bind fun a=>
 (lf 2 [s',.func (.func 97) #[] #[ptr q' 0],.int .i64 a,.int .i64 0] (st.ro st.next)).bind fun b=>
 cond (Nat.beq b.1 0) (
 some (.int .i64 (-1),st.adv b.2.2.next)) (
 ((b.2.1[0]?).bind (asI .i64)).bind fun c=>
 some (.int .i64 c,st.adv b.2.2.next))
noncomputable abbrev zgM:zac:=lS Tryz.prog Lk0 Tryz.f114 zn3
theorem zsr:Lk0.func 114=some (114,Tryz.f114):=by kernel_rfl
theorem zn4 [Sym] (s':Value) (q':Nat) (st:SS) {r:Value×SS} (h:zpf cc zgM s' q' st=some r):cc 114 [s',.func (.func 97) #[] #[ptr q' 0]] st=some r:=
 zah (li:=zn3) zai zaq zsr rfl (fun _=>rfl) (.trans (by kernel_rfl) h)
noncomputable def zh8 (cf:zak) (lf:zac) (s':Value) (q':Nat) (t7':Int) (t8':Int) (st:SS):Option (Nat×List Value×SS):=
 cond (decide (t8'<t7')) (
 (zar s' t8' 3).bind fun a=>
 (st.ldN a.1 a.2 3).bind fun b=>
 (cf 97 [b,ptr q' 0] st).bind fun c=>
 ((some c.1).bind asB).bind fun d=>
 cond d (
 some (1,[.int .i64 t8'],c.2)) (
 let e:Int:=IntKind.wrap .i64 (t8'+1)
 lf 2 [s',.func (.func 97) #[] #[ptr q' 0],.int .i64 t7',.int .i64 e] c.2)) (
 some (0,[],st))
theorem zhF [Sym] (s':Value) (q':Nat) (t7':Int) (t8':Int) (st:SS) {r:Nat×List Value×SS} (h:zh8 cc zgM s' q' t7' t8' st=some r):zgM 2 [s',.func (.func 97) #[] #[ptr q' 0],.int .i64 t7',.int .i64 t8'] st=some r:=
 zax zai zaq (key:=2) (I:=zm2) rfl (by kernel_rfl) (by kernel_rfl) rfl rfl (.trans (by kernel_rfl) h)
noncomputable def valEq (cf:zak) (lf:zac) (v':Value) (x1':Value) (st:SS):Option (Value×SS):=
 let a:SS:=(st.ro st.next).new (.cells (v':Value).cells.toList 0)
 ((a.ld ((st.ro st.next).next) 0).bind asS).bind fun b=>
 (addr? x1').bind fun c=>
 ((a.ld c.1 c.2).bind asS).bind fun d=>
 some (.bool (eqT b d),st.adv a.next)
noncomputable abbrev zto:zac:=lS Tryz.prog Lk0 Tryz.f97 zaG
theorem ztp:Lk0.func 97=some (97,Tryz.f97):=by kernel_rfl
theorem ztq [Sym] (v':Value) (x1':Value) (st:SS) {r:Value×SS} (h:valEq cc zto v' x1' st=some r):cc 97 [v',x1'] st=some r:=
 zah (li:=zaG) zai zaq ztp rfl (fun _=>rfl) (.trans (by kernel_rfl) h)
end Go.Proofs.YtifploedaacedaaGreatDoorE
namespace Go.Proofs.YtifploedaacedaaGreatDoorE
open Go Go.E Go.Proofs
abbrev Nms:=List (List UInt8×Int)
def zb9 (l:Nms) (n:List UInt8):Option Int:=(l.find? fun x=>decide (n=x.1)).map (·.2)
structure Lay where
 pl:Nat
 nms:Nms
 wds:List (Nat×PLine)
 ents:List (Val×Nat×Nat)
def Lay.define (l:Lay) (n:List UInt8) (x:Int):Option Lay:=if (zb9 l.nms n).isSome=true∨n=[] then none else some { l with nms:=l.nms++[(n,x)] }
def zcH (l:Lay) (x:PLine):Option Lay:=match x.args with
 | []=>none
 | v::r=>
   if x.dir=[111,114,103] then (if v.nm=[]∧r=[]∧(l.pl:Int)≤v.x∧v.x≤2048 then some { l with pl:=v.x.toNat } else none)
   else if x.dir=[97,108,105,103,110] then (if v.nm=[]∧r=[]∧1≤v.x∧v.x≤2048∧(l.pl+v.x.toNat-1)/v.x.toNat*v.x.toNat≤2048 then some { l with pl:=(l.pl+v.x.toNat-1)/v.x.toNat*v.x.toNat } else none)
   else if x.dir=[115,101,116] then (match r with
    | [y]=>if v.nm≠[]∧v.x=0∧y.nm=[] then l.define v.nm y.x else none
    | _=>none)
   else if x.dir=[101,110,116,114,121] then (if v.nm≠[]∧r=[]∧v.x=0∧(l.ents.any fun e=>decide (e.1.nm=v.nm))=false then some { l with ents:=l.ents++[(v,x.ln,v.col)] } else none)
   else none
def zh9 (l:Lay) (x:PLine):Option Lay:=
 (if x.lab=[] then some l else l.define x.lab l.pl).bind fun l=>
 if x.dir≠[] then zcH l x
 else if x.prs=[] then some l
 else if l.pl+1≤2048 then some { l with pl:=l.pl+1,wds:=l.wds++[(l.pl,x)] } else none
def zix (l:Nms) (f:List UInt8) (v:Val):Option Int:=
 if v.nm=[] then some v.x else
 if 0≤inT (namesT f) v.nm then some (inT (namesT f) v.nm+v.x) else (zb9 l v.nm).map (·+v.x)
def zbq (l:Nms) (w:Wd):List Pr→Wd×Nat
 | []=>(w,0)
 | p::r=>if zjG p.fd=0 then (w,p.col) else match zix l p.fd p.v with
   | none=>(w,p.v.col)
   | some x=>if (zcc w p.fd x).2=0 then zbq l (zcc w p.fd x).1 r else (w,p.v.col)
def nmM (l:Nms):List (ByteArray×Value):=l.map fun x=>(mkS x.1,.int .i64 x.2)
theorem zl5 (l:Nms) (k:List UInt8):zeg (mkS k) (nmM l)=(zb9 l k).map (.int .i64):=by
 induction l with
 | nil=>rfl
 | cons x r ih=>
   show cond (eqT (mkS k) (mkS x.1)) _ (zeg (mkS k) (nmM r))=_
   unfold zb9
   rw [zec,List.find?_cons]
   by_cases h:k=x.1
   ·rw [zdt h];rfl
   ·rw [zdf h]
    exact ih
theorem zux (l:Nms) (k:List UInt8) (x:Int) (h:zb9 l k=none):zfd (mkS k) (.int .i64 x) (nmM l)=nmM (l++[(k,x)]):=by
 induction l with
 | nil=>rfl
 | cons y r ih=>
   unfold zb9 at h
   rw [List.find?_cons] at h
   show cond (eqT (mkS k) (mkS y.1)) _ _=_
   rw [zec]
   by_cases hk:k=y.1
   ·rw [zdt hk] at h;cases h
   ·rw [zdf hk] at h ⊢
    show (mkS y.1,Value.int .i64 y.2)::zfd (mkS k) (.int .i64 x) (nmM r)=_
    rw [ih h];rfl
theorem define_ok [Sym] (b i:Nat) (p vw ve vv:Value) (l:Nms) (n:List UInt8) (x:Int) (st:SS) (hb:At st b [p,.map (some i),vw,ve,vv]) (hi:st.mem.get i=some (.map (nmM l))) (hlt:i<st.next) (hlim:st.lim≤i):
  (if (zb9 l n).isSome=true∨n=[] then cc 70 [ptr b 0,.string (mkS n),.int .i64 x] st=some (.bool false,st)
   else ∃ st',cc 70 [ptr b 0,.string (mkS n),.int .i64 x] st=some (.bool true,st')∧Mod [i] st st'∧st'.next=st.next∧st'.mem.get i=some (.map (nmM (l++[(n,x)])))):=by
 have h1:zav (ptr b 0)=some (ptr b 0):=rfl
 have l1:st.ld b (0+1)=some (.map (some i)):=hb.ld
 have m1:st.mapF (.map (some i)) (mkS n)=some ((zb9 l n).map (.int .i64)):=by
  unfold SS.mapF
  simp only [hi,zob,zl5]
 cases hf:zb9 l n with
 | some y=>
   rw [hf] at m1
   rw [if_pos (.inl rfl)]
   refine zdA _ _ _ st ?_
   simp only [zc5,h1,zob,zad,l1,m1,Option.map_some,zfI]
   rfl
 | none=>
   rw [hf] at m1
   by_cases hn:n=[]
   ·subst hn
    rw [if_pos (.inr rfl)]
    have he:eqT (mkS []) ⟨#[]⟩=true:=rfl
    refine zdA _ _ _ st ?_
    simp only [zc5,h1,zob,zad,l1,m1,Option.map_none,zfI,he,zct]
   ·rw [if_neg (by rintro (h | h);cases h;exact hn h)]
    have he:eqT (mkS n) ⟨#[]⟩=false:=by rw [zea];exact zdf hn
    have m2:st.mapP (.map (some i)) (mkS n) (.int .i64 x)=some (st.set i (some (.map (nmM (l++[(n,x)]))))):=by
     unfold SS.mapP
     have:Nat.ble st.lim i=true:=by rwa [Nat.ble_eq]
     simp only [this,zct,hi,zob,zux l n x hf]
    refine ⟨st.set i (some (.map (nmM (l++[(n,x)])))),zdA _ _ _ st ?_,⟨zlr _,rfl,fun j hj hS=>SS.set_old (by simpa using hS)⟩,rfl,by simp⟩
    simp only [zc5,h1,zob,zad,l1,m1,Option.map_none,zfI,he,zcf,m2]
end Go.Proofs.YtifploedaacedaaGreatDoorE
namespace Go.Proofs.YtifploedaacedaaGreatDoorE
open Go Go.E Go.Proofs
theorem zss [Sym] (l:List (List UInt8)) (hl:l.length≤1099511627776) (s:ByteArray) (v:Value) (st:SS) (hv:Rd st v (strs l) 1 l.length):∀ (r:List (List UInt8)) (i:Nat),l.drop i=r→i≤l.length→
  zgL 2 [v,.string s,.int .i64 l.length,.int .i64 i] st=some (match r.findIdx? (fun x=>decide (x=bl s)) with | none=>(0,[],st) | some k=>(1,[.int .i64 ((i+k:Nat):Int)],st)):=by
 intro r
 induction r with
 | nil=>
   intro i hd hi
   have hlen:=congrArg List.length hd
   rw [List.length_drop] at hlen
   have h:¬ (i:Int)<(l.length:Int):=by simp at hlen;omega
   refine zkN _ _ _ _ st ?_
   simp only [zh7,zdf h,zcf,List.findIdx?_nil]
 | cons p r ih=>
   intro i hd hi
   have hlen:=congrArg List.length hd
   rw [List.length_drop,List.length_cons] at hlen
   have h:(i:Int)<(l.length:Int):=by omega
   have hgp:l[i]?=some p:=by
    have:=List.getElem?_drop (xs:=l) (i:=i) (j:=0)
    rw [hd] at this
    simpa using this.symm
   have hd':l.drop (i+1)=r:=by rw [← List.drop_drop,hd];rfl
   obtain ⟨q,b1,_,b3⟩:=hv.load (j:=(i:Int)) (by omega) h (strs_get _ i p hgp) rfl
   have b3':st.ld q.1 q.2=some (.string (mkS p)):=by simpa using b3 0 (by omega)
   refine zkN _ _ _ _ st ?_
   have hw:=za6 (i:=i) (by omega)
   by_cases hp:p=bl s
   ·have he:eqT s (mkS p)=true:=by rw [zep,zbJ];exact zdt hp.symm
    simp only [zh7,zdt h,zct,b1,b3',zob,zab,he,List.findIdx?_cons,zdt hp,if_true]
    rfl
   ·have he:eqT s (mkS p)=false:=by rw [zep,zbJ];exact zdf (fun h=>hp h.symm)
    have:=ih (i+1) hd' (by omega)
    simp only [zh7,zdt h,zct,b1,b3',zob,zab,he,zcf,hw,List.findIdx?_cons,zdf hp]
    rw [this]
    cases r.findIdx? (fun x=>decide (x=bl s)) with
    | none=>rfl
    | some k=>simp;omega
theorem zuy [Sym] (l:List (List UInt8)) (hl:l.length≤1099511627776) (s:ByteArray) (v:Value) (st:SS) (hv:Rd st v (strs l) 1 l.length):cc 116 [v,.string s] st=some (.int .i64 (inT l (bl s)),st.adv st.next):=by
 have h:=zss l hl s v (st.ro st.next) hv l 0 rfl (Nat.zero_le _)
 have h':zgL 2 [v,.string s,.int .i64 l.length,.int .i64 0] (st.ro st.next)=_:=h
 refine zsq v s st ?_
 simp only [zso,hv.len,zob,zaa]
 rw [h',zob]
 unfold inT
 cases l.findIdx? (fun x=>decide (x=bl s)) with
 | none=>rfl
 | some k=>simp
theorem zm3 (f:List UInt8):(namesT f).length≤64:=by
 unfold namesT
 repeat' split
 all_goals decide+kernel
theorem inT_le (l:List (List UInt8)) (s:List UInt8): -1≤inT l s∧inT l s≤l.length:=by
 unfold inT
 cases h:l.findIdx? (fun x=>decide (x=s)) with
 | none=>simp
 | some k=>
   have:=(List.findIdx?_eq_some_iff_getElem.1 h).1
   simp only
   omega
def NmsOk (l:Nms):Prop:=∀ x∈l, -4294967296≤x.2∧x.2≤4294967296
theorem zst {l:Nms} {n:List UInt8} {x:Int} (h:zb9 l n=some x):∃ y∈l,y.2=x:=by
 unfold zb9 at h
 simp only [zmi] at h
 obtain ⟨y,hy,rfl⟩:=h
 exact ⟨y,List.mem_of_find?_eq_some hy,rfl⟩
def numR:Option Int→Int→Value
 | some x,_=>.tuple #[.int .i64 x,.bool true]
 | none,y=>.tuple #[.int .i64 y,.bool false]
theorem zq4 [Sym] (b i:Nat) (p vw ve vv:Value) (l:Nms) (hl:NmsOk l) (f:List UInt8) (v:Val) (h0: -4294967296≤v.x) (h1:v.x≤4294967296) (st:SS) (hg:Gd st) (hb:st.mem.get b=some (.cells [p,.map (some i),vw,ve,vv] 0)) (hbl:b<st.next) (hi:st.mem.get i=some (.map (nmM l))) (hlt:i<st.next):
  ∃ n,st.next≤n∧cc 99 [ptr b 0,.string (mkS f),.agg (valRow v).toArray] st=some (numR (zix l f v) v.x,st.adv n):=by
 have x1:Ext (st.ro st.next) ((st.ro st.next).new (.cells (valRow v) 0)):=(Ext.refl _).new _
 have hm:((st.ro st.next).new (.cells (valRow v) 0)).mem.get st.next=some (.cells (valRow v) 0):=SS.new_get (st:=st.ro st.next)
 have l0:((st.ro st.next).new (.cells (valRow v) 0)).ld st.next 0=some (.string (mkS v.nm)):=by rw [SS.ld_cells hm];rfl
 have l1:((st.ro st.next).new (.cells (valRow v) 0)).ld st.next 1=some (.int .i64 v.x):=by rw [SS.ld_cells hm];rfl
 have hn:eqT (mkS v.nm) ⟨#[]⟩=decide (v.nm=[]):=zea _
 by_cases hnm:v.nm=[]
 ·have hs:zix l f v=some v.x:=by unfold zix;rw [if_pos hnm]
  rw [hs]
  rw [zdt hnm] at hn
  refine ⟨st.next+1,by omega,zcy _ _ _ st ?_⟩
  simp only [zcm,zaJ,SS.ro_next,l0,l1,zob,zab,hn,zct,zaa]
  rfl
 ·rw [zdf hnm] at hn
  have g1:Gd ((st.ro st.next).new (.cells (valRow v) 0)):=(hg.ro (n:=st.next)).ext x1
  generalize hs1:(st.ro st.next).new (.cells (valRow v) 0)=s1 at*
  have hn1:s1.next=st.next+1:=by rw [← hs1];rfl
  obtain ⟨v4,s4,c4,x4,o4⟩:=ztf (mkS f) (s1.ro s1.next) g1.ro (zlr _)
  have x4':Ext s1 (s4.ro s1.lim):=⟨x4.next,rfl,fun j hj=>x4.keep j hj⟩
  have r4:Rd (s4.ro s1.lim) v4 (strs (namesT f)) 1 (namesT f).length:=o4.rd
  have l5:(s4.ro s1.lim).ld st.next 0=some (.string (mkS v.nm)):=by rw [SS.ld_cells (x4'.get (by omega) hm)];rfl
  have c6:=zuy (namesT f) (by have:=zm3 f;omega) (mkS v.nm) v4 (s4.ro s1.lim) r4
  have x6:Ext (s4.ro s1.lim) ((s4.ro s1.lim).adv (s4.ro s1.lim).next):=(Ext.refl _).adv (zlr _)
  have hin:=inT_le (namesT f) v.nm
  have hnl:=zm3 f
  have hs5:∀ k:Nat,k<s1.next→((s4.ro s1.lim).adv (s4.ro s1.lim).next).mem.get k=s1.mem.get k:=fun k hk=>(x4'.trans x6).keep k hk
  generalize hs6:(s4.ro s1.lim).adv (s4.ro s1.lim).next=s6 at*
  have hnx:st.next≤s6.next:=by rw [← hs6];have:=x4.next;simp at this ⊢;omega
  have hm6:s6.mem.get st.next=some (.cells (valRow v) 0):=(hs5 st.next (by omega)).trans hm
  have l60:s6.ld st.next 0=some (.string (mkS v.nm)):=by rw [SS.ld_cells hm6];rfl
  have l61:s6.ld st.next 1=some (.int .i64 v.x):=by rw [SS.ld_cells hm6];rfl
  by_cases hk:0≤inT (namesT f) v.nm
  ·have hs:zix l f v=some (inT (namesT f) v.nm+v.x):=by unfold zix;rw [if_neg hnm,if_pos hk]
   rw [hs]
   have hw:IntKind.wrap .i64 (inT (namesT f) v.nm+v.x)=inT (namesT f) v.nm+v.x:=wrap64 (by omega) (by omega)
   refine ⟨s6.next,hnx,zcy _ _ _ st ?_⟩
   simp only [zcm,zaJ,SS.ro_next,hs1,l0,zob,zab,hn,zcf,c4,l5,c6,zbJ,zaa,zdt hk,zct,l61,hw]
   rfl
  ·have hs:zix l f v=(zb9 l v.nm).map (·+v.x):=by unfold zix;rw [if_neg hnm,if_neg hk]
   rw [hs]
   have hold:∀ k:Nat,k<st.next→s6.mem.get k=st.mem.get k:=fun k hk=>by
    rw [hs5 k (by omega),← hs1,SS.new_old (by show k≠st.next;omega)];rfl
   have hnl:zav (ptr b 0)=some (ptr b 0):=rfl
   have l7:s6.ld b (0+1)=some (.map (some i)):=by rw [SS.ld_cells ((hold b hbl).trans hb)];rfl
   have m7:s6.mapF (.map (some i)) (mkS v.nm)=some ((zb9 l v.nm).map (.int .i64)):=by
    unfold SS.mapF
    simp only [(hold i hlt).trans hi,zob,zl5]
   cases hf:zb9 l v.nm with
   | none=>
     rw [hf] at m7
     have hw:IntKind.wrap .i64 (0+v.x)=v.x:=by rw [Int.zero_add];exact wrap64 (by omega) (by omega)
     refine ⟨s6.next,hnx,zcy _ _ _ st ?_⟩
     simp only [zcm,zaJ,SS.ro_next,hs1,l0,zob,zab,hn,zcf,c4,l5,c6,zbJ,zaa,zdf hk,hnl,zad,l7,l60,l61,m7,Option.map_none,zfI,hw]
     rfl
   | some y=>
     rw [hf] at m7
     obtain ⟨z,hz,hzy⟩:=zst hf
     have hb':=hl z hz
     rw [hzy] at hb'
     have hw:IntKind.wrap .i64 (y+v.x)=y+v.x:=wrap64 (by omega) (by omega)
     have ht:(zal (.tuple #[.int .i64 y,.bool true]) 0).bind (asI .i64)=some y:=rfl
     refine ⟨s6.next,hnx,zcy _ _ _ st ?_⟩
     simp only [zcm,zaJ,SS.ro_next,hs1,l0,zob,zab,hn,zcf,c4,l5,c6,zbJ,zaa,zdf hk,hnl,zad,l7,l60,l61,m7,Option.map_some,zfI,ht,hw]
     rfl
end Go.Proofs.YtifploedaacedaaGreatDoorE
namespace Go.Proofs.YtifploedaacedaaGreatDoorE
open Go Go.E Go.Proofs
theorem zcX {i j k k':Nat} (h:i≠j):zbU (ptr i k) (ptr j k')=true:=by
 show (!Nat.beq i j)=true
 rw [zaC,zdf h];rfl
theorem zaB {a b c:SS} {i:Nat} (h:Ext a b) (m:Mod [i] b c) (hi:a.next≤i):Ext a c:=((Mod.ofExt (S:=[i]) h).then m).fresh fun j hj=>by
 have:j=i:=by simpa using hj
 omega
theorem At.setW {st:SS} {b:Nat} {row:List Value} (h:At st b row) (hr:row.length=12) (w:Wd) (hw:w.length=12):∃ st',st.stV b 0 12 (wV w)=some st'∧At st' b (wRow w)∧Mod [b] st st':=by
 obtain ⟨s',e,a,m,_⟩:=h.stV (k:=0) (n:=12) (v:=wV w) (zaJ _) (by rw [za7,hw]) (zgq w) (row':=wRow w) (by rw [zbB (by rw [za7,hw,hr];exact zlr 12)];simp [za7,hw,hr])
 exact ⟨s',e,a,m⟩
def zq5 (prs:List Pr):Prop:=prs.length≤1099511627776∧∀ p∈prs,0<p.col∧0<p.v.col∧ -4294967296≤p.v.x∧p.v.x≤4294967296
theorem zl6 (l:Nms):∀ (prs:List Pr) (w:Wd),(zbq l w prs).1.length=w.length
 | [],w=>rfl
 | p::r,w=>by
   unfold zbq
   split
   ·rfl
   ·split
    ·rfl
    ·split
     ·rw [zl6 l r,zdw]
     ·rfl
theorem ztr [Sym] (l:Nms) (hl:NmsOk l) (prs:List Pr) (hprs:zq5 prs) (b i t4 wb:Nat) (p vw ve vv v:Value) (st0:SS) (hg:Gd st0) (hb:st0.mem.get b=some (.cells [p,.map (some i),vw,ve,vv] 0)) (hbl:b<st0.next) (hi:st0.mem.get i=some (.map (nmM l))) (hlt:i<st0.next)
  (hv:Rd st0 v (rowsF prRow prs) 5 prs.length) (hne:t4≠wb) (h4:st0.next≤t4) (hw0:st0.next≤wb):∀ (k j:Nat) (w:Wd) (st:SS),prs.length=k+j→w.length=12→Ext st0 st→st.lim≤st0.next→At st wb (wRow w)→At st t4 Z12→
  ∃ st',Ext st0 st'∧((zbq l w (prs.drop j)).2=0∧zaT 3 [ptr b 0,ptr t4 0,ptr wb 0,v,.int .i64 prs.length,.int .i64 j] st=some (0,[ptr t4 0,ptr wb 0],st')∧At st' wb (wRow (zbq l w (prs.drop j)).1)∧At st' t4 Z12∨
   0<(zbq l w (prs.drop j)).2∧zaT 3 [ptr b 0,ptr t4 0,ptr wb 0,v,.int .i64 prs.length,.int .i64 j] st=some (1,[ptr t4 0,.int .i64 (zbq l w (prs.drop j)).2],st')∧∃ u:Wd,u.length=12∧At st' t4 (wRow u)):=by
 intro k
 induction k with
 | zero=>
   intro j w st hk hw he hlm aw a4
   have h:¬ (j:Int)<(prs.length:Int):=by omega
   rw [List.drop_of_length_le (by omega)]
   refine ⟨st,he,.inl ⟨rfl,zbw _ _ _ _ _ _ st ?_,aw,a4⟩⟩
   simp only [zbu,zdf h,zcf]
 | succ k ih=>
   intro j w st hk hw he hlm aw a4
   have h:(j:Int)<(prs.length:Int):=by omega
   obtain ⟨q,hq⟩:∃ q,prs[j]?=some q:=⟨_,zge (by omega)⟩
   obtain ⟨x,b1,b2,_⟩:=(hv.ext he).load (j:=(j:Int)) (by omega) h (zbv zkK prs j q hq) rfl
   have b2':st.ldN x.1 x.2 5=some (.agg (prRow q).toArray):=b2
   obtain ⟨q1,q2,q3,q4⟩:=hprs.2 q (zmg hq)
   have hlmn:st.lim≤st.next:=zlt hlm he.next
   obtain ⟨s4,e4,a5,x4,n4⟩:=zaQ (st:=st) hlmn (r:=prRow ⟨[],0,⟨[],0,0⟩⟩) (row:=prRow q) (v:=.agg (prRow q).toArray) (zaJ _) rfl rfl rfl
   have e4':(st.new (.cells [.string ⟨#[]⟩,.int .i64 0,.string ⟨#[]⟩,.int .i64 0,.int .i64 0] 0)).stV st.next 0 5 (.agg (prRow q).toArray)=some s4:=e4
   have he4:Ext st0 s4:=he.trans x4
   obtain ⟨n6,hn6,c6⟩:=zuo q.fd s4 (hg.ext he4)
   have x6:Ext s4 (s4.adv n6):=(Ext.refl _).adv hn6
   have he6:=he4.trans x6
   have a56:=a5.ext x6
   have aw6:=(aw.ext x4).ext x6
   have a46:=(a4.ext x4).ext x6
   have l0:s4.ld st.next 0=some (.string (mkS q.fd)):=a5.ld
   have hd:=drop_cons hq
   have hE:zbq l w (prs.drop j)=if zjG q.fd=0 then (w,q.col) else match zix l q.fd q.v with
    | none=>(w,q.v.col)
    | some x=>if (zcc w q.fd x).2=0 then zbq l (zcc w q.fd x).1 (prs.drop (j+1)) else (w,q.v.col):=by rw [hd];rfl
   have hpne:st.next≠t4:=by have:=a4.lt;omega
   by_cases hbt:zjG q.fd=0
   ·rw [if_pos hbt] at hE
    rw [hE]
    have hz:((zjG q.fd:Nat):Int)=0:=by omega
    obtain ⟨s12,e12,a12,m12⟩:=At.setW a46 rfl w hw
    have l9:=aw6.ldN (n:=12) (by rw [za7,hw])
    have l9':(s4.adv n6).ldN wb 0 12=some (wV w):=l9
    have l10:(s4.adv n6).ld st.next 1=some (.int .i64 q.col):=a56.ld
    refine ⟨s12,zaB he6 m12 h4,.inr ⟨q1,zbw _ _ _ _ _ _ st ?_,w,hw,a12⟩⟩
    simp only [zbu,zdt h,zct,b1,b2',e4',l0,c6,zob,zab,zaa,zdt hz,zad,l9',l10,zcX hpne,e12]
   ·rw [if_neg hbt] at hE
    have hz:¬ ((zjG q.fd:Nat):Int)=0:=by omega
    have l13:(s4.adv n6).ld st.next 0=some (.string (mkS q.fd)):=a56.ld
    have l14:(s4.adv n6).ldN st.next 2 3=some (.agg (valRow q.v).toArray):=a56.ldC rfl
    obtain ⟨n15,hn15,c15⟩:=zq4 b i p vw ve vv l hl q.fd q.v q3 q4 (s4.adv n6) (hg.ext he6) (he6.get hbl hb) (zll hbl he6.next) (he6.get hlt hi) (zll hlt he6.next)
    have x15:Ext (s4.adv n6) ((s4.adv n6).adv n15):=(Ext.refl _).adv hn15
    have he15:=he6.trans x15
    have a515:=a56.ext x15
    have aw15:=aw6.ext x15
    have a415:=a46.ext x15
    have l19:((s4.adv n6).adv n15).ldN wb 0 12=some (wV w):=aw15.ldN (by rw [za7,hw])
    have l20:((s4.adv n6).adv n15).ld st.next 0=some (.string (mkS q.fd)):=a515.ld
    have step:∀ (y:Int),∃ n21 s25,((s4.adv n6).adv n15).next≤n21∧cc 100 [wV w,.string (mkS q.fd),.int .i64 y] ((s4.adv n6).adv n15)=some (.tuple #[wV (zcc w q.fd y).1,.int .i64 (zcc w q.fd y).2],((s4.adv n6).adv n15).adv n21)∧
      (((s4.adv n6).adv n15).adv n21).stV wb 0 12 (wV (zcc w q.fd y).1)=some s25∧Ext st0 s25∧At s25 wb (wRow (zcc w q.fd y).1)∧At s25 t4 Z12∧s25.ld st.next 4=some (.int .i64 q.v.col)∧s25.lim≤st0.next:=by
     intro y
     obtain ⟨n21,hn21,c21⟩:=set_ok w hw q.fd y ((s4.adv n6).adv n15) (hg.ext he15)
     have x21:Ext ((s4.adv n6).adv n15) (((s4.adv n6).adv n15).adv n21):=(Ext.refl _).adv hn21
     obtain ⟨s25,e25,a25,m25⟩:=At.setW (aw15.ext x21) (by rw [za7,hw]) (zcc w q.fd y).1 (by rw [zdw,hw])
     have hpw:st.next≠wb:=by have:=aw.lt;omega
     have a55:=(a515.ext x21).mod m25 (by simpa using hpw)
     have hx25:Ext st0 s25:=zaB (he15.trans x21) m25 hw0
     exact ⟨n21,s25,hn21,c21,e25,hx25,a25,(a415.ext x21).mod m25 (by simpa using hne),a55.ld,by rw [hx25.lim,← he.lim];exact hlm⟩
    have ht0:∀ (a:Value) (z:Int),zal (.tuple #[a,.int .i64 z]) 0=some a:=fun _ _=>rfl
    have ht1:∀ (a:Value) (z:Int),(zal (.tuple #[a,.int .i64 z]) 1).bind (asI .i64)=some z:=fun _ _=>rfl
    have hn0:∀ (y:Int) (c:Bool),(zal (.tuple #[.int .i64 y,.bool c]) 0).bind (asI .i64)=some y:=fun _ _=>rfl
    have hn1:∀ (y:Int) (c:Bool),(zal (.tuple #[.int .i64 y,.bool c]) 1).bind asB=some c:=fun _ _=>rfl
    cases hnum:zix l q.fd q.v with
    | none=>
      rw [hnum] at hE c15
      rw [hE]
      obtain ⟨n21,s25,hn21,c21,e25,hx25,aw25,a425,l28,hlm25⟩:=step q.v.x
      obtain ⟨s30,e30,a30,m30⟩:=At.setW a425 rfl (zcc w q.fd q.v.x).1 (by rw [zdw,hw])
      have l27:s25.ldN wb 0 12=some (wV (zcc w q.fd q.v.x).1):=aw25.ldN (by rw [za7,zdw,hw])
      refine ⟨s30,zaB hx25 m30 h4,.inr ⟨q2,zbw _ _ _ _ _ _ st ?_,_,by rw [zdw,hw],a30⟩⟩
      have c15':cc 99 [ptr b 0,.string (mkS q.fd),.agg (valRow q.v).toArray] (s4.adv n6)=some (.tuple #[.int .i64 q.v.x,.bool false],(s4.adv n6).adv n15):=c15
      simp only [zbu,zdt h,zct,b1,b2',e4',l0,c6,zob,zab,zaa,zdf hz,zcf,l13,l14,c15',hn0,hn1,zad,l19,l20,c21,ht0,ht1,e25,znf,l27,l28,zcX hpne,e30]
    | some y=>
      rw [hnum] at hE c15
      simp only at hE
      obtain ⟨n21,s25,hn21,c21,e25,hx25,aw25,a425,l28,hlm25⟩:=step y
      have c15':cc 99 [ptr b 0,.string (mkS q.fd),.agg (valRow q.v).toArray] (s4.adv n6)=some (.tuple #[.int .i64 y,.bool true],(s4.adv n6).adv n15):=c15
      have hw1:=za6 (i:=j) (by have:=hprs.1;omega)
      by_cases hs:(zcc w q.fd y).2=0
      ·rw [if_pos hs] at hE
       rw [hE]
       obtain ⟨s',f1,f2⟩:=ih (j+1) (zcc w q.fd y).1 s25 (by omega) (by rw [zdw,hw]) hx25 hlm25 aw25 a425
       have go:∀ r,zaT 3 [ptr b 0,ptr t4 0,ptr wb 0,v,.int .i64 prs.length,.int .i64 ((j+1:Nat):Int)] s25=some r→zaT 3 [ptr b 0,ptr t4 0,ptr wb 0,v,.int .i64 prs.length,.int .i64 j] st=some r:=fun r hr=>by
        refine zbw _ _ _ _ _ _ st ?_
        simp only [zbu,zdt h,zct,b1,b2',e4',l0,c6,zob,zab,zaa,zdf hz,zcf,l13,l14,c15',hn0,hn1,zad,l19,l20,c21,ht0,ht1,e25,znt,zdt hs,hw1]
        exact hr
       refine ⟨s',f1,?_⟩
       rcases f2 with ⟨g1,g2,g3,g4⟩ | ⟨g1,g2,g3⟩
       ·exact .inl ⟨g1,go _ g2,g3,g4⟩
       ·exact .inr ⟨g1,go _ g2,g3⟩
      ·rw [if_neg hs] at hE
       rw [hE]
       obtain ⟨s30,e30,a30,m30⟩:=At.setW a425 rfl (zcc w q.fd y).1 (by rw [zdw,hw])
       have l27:s25.ldN wb 0 12=some (wV (zcc w q.fd y).1):=aw25.ldN (by rw [za7,zdw,hw])
       refine ⟨s30,zaB hx25 m30 h4,.inr ⟨q2,zbw _ _ _ _ _ _ st ?_,_,by rw [zdw,hw],a30⟩⟩
       simp only [zbu,zdt h,zct,b1,b2',e4',l0,c6,zob,zab,zaa,zdf hz,zcf,l13,l14,c15',hn0,hn1,zad,l19,l20,c21,ht0,ht1,e25,znt,zdf hs,znf,l27,l28,zcX hpne,e30]
def zaD:Wd:=List.replicate 12 0
theorem zsu:wRow zaD=Z12:=rfl
theorem zsv [Sym] (l:Nms) (hl:NmsOk l) (x:Item) (hprs:zq5 x.1.prs) (b i:Nat) (p vw ve vv:Value) (st:SS) (hg:Gd st) (hb:st.mem.get b=some (.cells [p,.map (some i),vw,ve,vv] 0)) (hbl:b<st.next) (hi:st.mem.get i=some (.map (nmM l))) (hlt:i<st.next)
  (hv:Rd st x.2.2 (rowsF prRow x.1.prs) 5 x.1.prs.length):
  ∃ n u,st.next≤n∧u.length=12∧((zbq l zaD x.1.prs).2=0→u=(zbq l zaD x.1.prs).1)∧cc 72 [ptr b 0,.agg (lnRow x).toArray] st=some (.tuple #[wV u,.int .i64 (zbq l zaD x.1.prs).2],st.adv n):=by
 have x1:Ext (st.ro st.next) ((st.ro st.next).new (.cells (lnRow x) 0)):=(Ext.refl _).new _
 have a2:At (((st.ro st.next).new (.cells (lnRow x) 0)).new (.cells Z12 0)) (st.next+1) Z12:=At.new (st:=(st.ro st.next).new (.cells (lnRow x) 0)) (by simp) _
 have x2:Ext ((st.ro st.next).new (.cells (lnRow x) 0)) (((st.ro st.next).new (.cells (lnRow x) 0)).new (.cells Z12 0)):=(Ext.refl _).new _
 have a3:At ((((st.ro st.next).new (.cells (lnRow x) 0)).new (.cells Z12 0)).new (.cells Z12 0)) (st.next+2) Z12:=At.new (st:=((st.ro st.next).new (.cells (lnRow x) 0)).new (.cells Z12 0)) (by simp;omega) _
 have x3:Ext (((st.ro st.next).new (.cells (lnRow x) 0)).new (.cells Z12 0)) ((((st.ro st.next).new (.cells (lnRow x) 0)).new (.cells Z12 0)).new (.cells Z12 0)):=(Ext.refl _).new _
 have he:=x1.trans (x2.trans x3)
 have l4:((((st.ro st.next).new (.cells (lnRow x) 0)).new (.cells Z12 0)).new (.cells Z12 0)).ld st.next 4=some x.2.2:=by
  have hm:((((st.ro st.next).new (.cells (lnRow x) 0)).new (.cells Z12 0)).new (.cells Z12 0)).mem.get st.next=some (.cells (lnRow x) 0):=(x2.trans x3).get (by simp) (SS.new_get (st:=st.ro st.next))
  rw [SS.ld_cells hm];rfl
 have hv':Rd (st.ro st.next) x.2.2 (rowsF prRow x.1.prs) 5 x.1.prs.length:=hv
 obtain ⟨s',f1,f2⟩:=ztr l hl x.1.prs hprs b i (st.next+1) (st.next+2) p vw ve vv x.2.2 (st.ro st.next) hg.ro hb hbl hi hlt hv' (by omega) (by simp) (by simp) x.1.prs.length 0 zaD _ (by omega) rfl he (by simp) a3 (a2.ext x3)
 rw [List.drop_zero] at f2
 have hlen:(lenV x.2.2).bind (asI .i64)=some (x.1.prs.length:Int):=by rw [hv.len];rfl
 have b0:Nat.beq 0 0=true:=rfl
 have b1:Nat.beq 1 0=false:=rfl
 have hn1:((st.ro st.next).new (.cells (lnRow x) 0)).next=st.next+1:=rfl
 have hn2:(((st.ro st.next).new (.cells (lnRow x) 0)).new (.cells Z12 0)).next=st.next+2:=rfl
 have hnx:=f1.next
 simp only [SS.ro_next] at hnx
 have hel:=zl6 l x.1.prs zaD
 rcases f2 with ⟨g1,g2,g3,g4⟩ | ⟨g1,g2,u,g3,g4⟩
 ·have g2':zaT 3 [ptr b 0,ptr (st.next+1) 0,ptr (st.next+2) 0,x.2.2,.int .i64 x.1.prs.length,.int .i64 0] ((((st.ro st.next).new (.cells (lnRow x) 0)).new (.cells Z12 0)).new (.cells Z12 0))=_:=g2
  obtain ⟨s12,e12,a12,m12⟩:=At.setW g4 rfl (zbq l zaD x.1.prs).1 (by rw [hel];rfl)
  have l10:s'.ldN (st.next+2) 0 12=some (wV (zbq l zaD x.1.prs).1):=g3.ldN (by rw [za7,hel];rfl)
  have l14:s12.rdN (st.next+1) 0 12=some (wV (zbq l zaD x.1.prs).1):=a12.rdN (by rw [za7,hel];rfl)
  have hz:=zmT (zbq l zaD x.1.prs).1 0
  refine ⟨s12.next,_,by have:=m12.next;omega,by rw [hel];rfl,fun _=>rfl,ze9 _ _ st ?_⟩
  rw [g1]
  simp only [zee,zaJ,SS.ro_next,hn1,hn2,l4,zob,hlen,g2',b0,zct,zgs,zgz,zad,l10,e12,l14,hz]
  rfl
 ·have g2':zaT 3 [ptr b 0,ptr (st.next+1) 0,ptr (st.next+2) 0,x.2.2,.int .i64 x.1.prs.length,.int .i64 0] ((((st.ro st.next).new (.cells (lnRow x) 0)).new (.cells Z12 0)).new (.cells Z12 0))=_:=g2
  have l18:s'.rdN (st.next+1) 0 12=some (wV u):=g4.rdN (by rw [za7,g3])
  have hz:=zmT u (zbq l zaD x.1.prs).2
  refine ⟨s'.next,u,hnx,g3,fun h=>by omega,ze9 _ _ st ?_⟩
  simp only [zee,zaJ,SS.ro_next,hn1,hn2,l4,zob,hlen,g2',b1,zcf,zgs,zgz,zad,zaa,l18,hz,zct]
end Go.Proofs.YtifploedaacedaaGreatDoorE
namespace Go.Proofs.YtifploedaacedaaGreatDoorE
open Go Go.E Go.Proofs
theorem zts [Sym] (p:Val) (f:Val) (q:Nat) (st:SS) (hq:st.mem.get q=some (.cells (valRow f) 0)) (hlt:q<st.next):∃ n,st.next≤n∧cc 97 [.agg (valRow p).toArray,ptr q 0] st=some (.bool (decide (p.nm=f.nm)),st.adv n):=by
 refine ⟨st.next+1,by omega,ztq _ _ st ?_⟩
 have l0:((st.ro st.next).new (.cells (valRow p) 0)).ld st.next 0=some (.string (mkS p.nm)):=by
  have hm:((st.ro st.next).new (.cells (valRow p) 0)).mem.get st.next=some (.cells (valRow p) 0):=SS.new_get (st:=st.ro st.next)
  rw [SS.ld_cells hm];rfl
 have l1:((st.ro st.next).new (.cells (valRow p) 0)).ld q 0=some (.string (mkS f.nm)):=by
  rw [SS.ld_cells (c:=valRow f) (z:=0) (by rw [SS.new_old (by simp;omega)];exact hq)];rfl
 simp only [valEq,zaJ,SS.ro_next,l0,zob,zab,zad,l1,zec]
 rfl
theorem zq6 [Sym] (ps:List Val) (hsz:ps.length≤1099511627776) (f:Val) (q:Nat) (v:Value) (st0:SS) (hv:Rd st0 v (rowsF valRow ps) 3 ps.length) (hq:st0.mem.get q=some (.cells (valRow f) 0)) (hlt:q<st0.next):
  ∀ (k j:Nat) (st:SS),ps.length=k+j→Ext st0 st→∃ e vs st',zgM 2 [v,.func (.func 97) #[] #[ptr q 0],.int .i64 ps.length,.int .i64 j] st=some (e,vs,st')∧Ext st0 st'∧
   ((e=0∧vs=[]∧((ps.drop j).any fun x=>decide (x.nm=f.nm))=false)∨(e=1∧((ps.drop j).any fun x=>decide (x.nm=f.nm))=true∧∃ m:Nat,vs=[.int .i64 m])):=by
 intro k
 induction k with
 | zero=>
   intro j st hk he
   refine ⟨0,[],st,zhF v q _ _ st ?_,he,.inl ⟨rfl,rfl,?_⟩⟩
   ·have:¬ (j:Int)<(ps.length:Int):=by omega
    simp only [zh8,zdf this,zcf]
   ·rw [List.drop_of_length_le (by omega)];rfl
 | succ k ih=>
   intro j st hk he
   obtain ⟨p,hp⟩:∃ p,ps[j]?=some p:=⟨_,zge (by omega)⟩
   have hjl:(j:Int)<(ps.length:Int):=by omega
   obtain ⟨x,b1,b2,_⟩:=(hv.ext he).load (j:=(j:Int)) (by omega) hjl (zbv zqW ps j p hp) rfl
   obtain ⟨n,hn,c1⟩:=zts p f q st (he.get hlt hq) (zll hlt he.next)
   have b2':st.ldN x.1 x.2 3=some (.agg (valRow p).toArray):=b2
   have hd:=drop_cons hp
   have hw:=za6 (i:=j) (by omega)
   by_cases hf:p.nm=f.nm
   ·refine ⟨1,[.int .i64 j],st.adv n,zhF v q _ _ st ?_,he.adv (by have:=he.next;omega),.inr ⟨rfl,?_,j,rfl⟩⟩
    ·rw [zdt hf] at c1
     simp only [zh8,zdt hjl,zct,b1,zob,b2',c1,zaf]
    ·rw [hd,List.any_cons,zdt hf];rfl
   ·obtain ⟨e,vs,st',d1,d2,d3⟩:=ih (j+1) (st.adv n) (by omega) (he.adv (by have:=he.next;omega))
    rw [zdf hf] at c1
    refine ⟨e,vs,st',zhF v q _ _ st ?_,d2,?_⟩
    ·simp only [zh8,zdt hjl,zct,b1,zob,b2',c1,zaf,zcf,hw]
     exact d1
    ·rw [hd,List.any_cons,zdf hf,Bool.false_or]
     exact d3
theorem ztt [Sym] (ps:List Val) (hsz:ps.length≤1099511627776) (f:Val) (q:Nat) (v:Value) (st:SS) (hv:Rd st v (rowsF valRow ps) 3 ps.length) (hq:st.mem.get q=some (.cells (valRow f) 0)) (hlt:q<st.next):
  ∃ n,st.next≤n∧cc 96 [v,.func (.func 97) #[] #[ptr q 0]] st=some (.bool (ps.any fun x=>decide (x.nm=f.nm)),st.adv n):=by
 obtain ⟨e,vs,st',d1,d2,d3⟩:=zq6 ps hsz f q v ((st.ro st.next).ro (st.ro st.next).next) hv hq hlt ps.length 0 ((st.ro st.next).ro (st.ro st.next).next) (by omega) (.refl _)
 have d1':zgM 2 [v,.func (.func 97) #[] #[ptr q 0],.int .i64 ps.length,.int .i64 0] ((st.ro st.next).ro (st.ro st.next).next)=some (e,vs,st'):=d1
 have hlen:(lenV v).bind (asI .i64)=some (ps.length:Int):=by rw [hv.len];rfl
 rw [List.drop_zero] at d3
 have hnx:=d2.next
 simp at hnx
 refine ⟨st'.next,hnx,zq3 _ _ st ?_⟩
 rcases d3 with ⟨rfl,rfl,e3⟩ | ⟨rfl,e2,m,rfl⟩
 ·have c:cc 114 [v,.func (.func 97) #[] #[ptr q 0]] (st.ro st.next)=some (.int .i64 (-1),(st.ro st.next).adv st'.next):=by
   refine zn4 _ _ _ ?_
   have hb0:Nat.beq 0 0=true:=rfl
   simp only [zpf,hlen,zob,d1',hb0,zct]
  have h0:¬ (0:Int)≤ -1:=by omega
  rw [e3]
  simp only [znB,c,zob,zaa,zdf h0]
  rfl
 ·have c:cc 114 [v,.func (.func 97) #[] #[ptr q 0]] (st.ro st.next)=some (.int .i64 m,(st.ro st.next).adv st'.next):=by
   refine zn4 _ _ _ ?_
   have hb0:Nat.beq 1 0=false:=rfl
   simp only [zpf,hlen,zob,d1',hb0,zcf,zgz,zaa]
  have h0:(0:Int)≤(m:Int):=by omega
  rw [e2]
  simp only [znB,c,zob,zaa,zdt h0]
  rfl
end Go.Proofs.YtifploedaacedaaGreatDoorE
namespace Go.Proofs.YtifploedaacedaaGreatDoorE
open Go Go.E Go.Proofs
def blkOf:Value→Option Nat
 | .slice (some ⟨j,_,none⟩) _ _=>some j
 | _=>none
abbrev WItem:=Nat×Item
def wdRow (x:WItem):List Value:=.int .i64 x.1::lnRow x.2
def entRow (x:Val×Nat×Nat):List Value:=[.int .i64 x.2.1,.int .i64 x.2.2]
def bldRow (pl i:Nat) (vw ve vv:Value):List Value:=[.int .i64 pl,.map (some i),vw,ve,vv]
structure Bld (st0 st:SS) (B b i:Nat) (vw ve vv:Value) (l:Lay) (its:List WItem):Prop where
 ext:Ext st0 st
 ll:st0.lim≤st0.next
 row:At st b (bldRow l.pl i vw ve vv)
 mp:st.mem.get i=some (.map (nmM l.nms))
 b0:st0.next≤b
 i0:st0.next≤i
 bB:b<B
 iB:i<B
 ne:b≠i
 BN:B≤st.next
 ow:Own B st vw (rowsF wdRow its) 6 its.length
 oe:Own B st ve (rowsF entRow l.ents) 2 l.ents.length
 ov:Own B st vv (rowsF valRow (l.ents.map (·.1))) 3 l.ents.length
 d1:∀ j,blkOf vw=some j→blkOf ve≠some j∧blkOf vv≠some j
 d2:∀ j,blkOf ve=some j→blkOf vv≠some j
 wds:its.map (fun x=>(x.1,x.2.1))=l.wds
 itr:∀ x∈its,Rd st0 x.2.2.1 (rowsF valRow x.2.1.args) 3 x.2.1.args.length∧Rd st0 x.2.2.2 (rowsF prRow x.2.1.prs) 5 x.2.1.prs.length
structure Frm (b i:Nat) (vw:Value) (st st':SS):Prop where
 next:st.next≤st'.next
 lim:st'.lim=st.lim
 keep:∀ j,j<st.next→j≠b→j≠i→blkOf vw≠some j→st'.mem.get j=st.mem.get j
theorem Frm.trans {b i:Nat} {vw:Value} {x y z:SS} (h:Frm b i vw x y) (k:Frm b i vw y z):Frm b i vw x z:=⟨zlt h.next k.next,k.lim.trans h.lim,fun j a1 a2 a3 a4=>(k.keep j (zll a1 h.next) a2 a3 a4).trans (h.keep j a1 a2 a3 a4)⟩
theorem Frm.mod {b i:Nat} {vw:Value} {S:List Nat} {x y:SS} (m:Mod S x y) (hS:∀ j,j∈S→j=b∨j=i):Frm b i vw x y:=⟨m.next,m.lim,fun j a1 a2 a3 _=>m.keep j a1 fun e=>(hS j e).elim a2 a3⟩
theorem Frm.ext {b i:Nat} {vw:Value} {x y:SS} (m:Ext x y):Frm b i vw x y:=⟨m.next,m.lim,fun j a1 _ _ _=>m.keep j a1⟩
section
variable {st0 st st' : SS} {B b i : Nat} {vw ve vv : Value} {l : Lay} {its : List WItem}
theorem Bld.then (h:Bld st0 st B b i vw ve vv l its) (x:Ext st st'):Bld st0 st' B b i vw ve vv l its:=
 { h with ext:=h.ext.trans x,row:=h.row.ext x,mp:=x.get (by have:=h.iB;have:=h.BN;omega) h.mp,BN:=zlt h.BN x.next,ow:=h.ow.ext x,oe:=h.oe.ext x,ov:=h.ov.ext x }
theorem Bld.placeM (h:Bld st0 st B b i vw ve vv l its) (p:Nat):∃ st',st.st b 0 [.int .i64 p]=some st'∧Bld st0 st' B b i vw ve vv { l with pl:=p } its∧Mod [b] st st':=by
 obtain ⟨s',e,a,m,_⟩:=h.row.sto (k:=0) (vs:=[.int .i64 p]) (row':=bldRow p i vw ve vv) rfl rfl
 have hx:Ext st0 s':=zaB h.ext m h.b0
 refine ⟨s',e,{ h with ext:=hx,row:=a,mp:=m.get (by have:=h.iB;have:=h.BN;omega) (by simpa using Ne.symm h.ne) h.mp,BN:=zlt h.BN m.next,ow:=h.ow.modLt m ?_,oe:=h.oe.modLt m ?_,ov:=h.ov.modLt m ?_ },m⟩
 all_goals
  intro j hj
  have:j=b:=by simpa using hj
  have:=h.bB
  omega
theorem Bld.place (h:Bld st0 st B b i vw ve vv l its) (p:Nat):∃ st',st.st b 0 [.int .i64 p]=some st'∧Bld st0 st' B b i vw ve vv { l with pl:=p } its:=let ⟨s,e,k,_⟩:=h.placeM p;⟨s,e,k⟩
theorem Bld.define [Sym] (h:Bld st0 st B b i vw ve vv l its) (n:List UInt8) (x:Int):
  match l.define n x with
  | none=>cc 70 [ptr b 0,.string (mkS n),.int .i64 x] st=some (.bool false,st)
  | some l'=>∃ st',cc 70 [ptr b 0,.string (mkS n),.int .i64 x] st=some (.bool true,st')∧Mod [i] st st'∧Bld st0 st' B b i vw ve vv l' its:=by
 have hi:i<st.next:=by have:=h.iB;have:=h.BN;omega
 have hlim:st.lim≤i:=by rw [h.ext.lim];have:=h.ll;have:=h.i0;omega
 have hd:=define_ok b i (.int .i64 l.pl) vw ve vv l.nms n x st h.row h.mp hi hlim
 unfold Lay.define
 by_cases hc:(zb9 l.nms n).isSome=true∨n=[]
 ·rw [if_pos hc] at hd ⊢
  exact hd
 ·rw [if_neg hc] at hd ⊢
  obtain ⟨s',c,m,hn,hm⟩:=hd
  have hx:Ext st0 s':=zaB h.ext m h.i0
  refine ⟨s',c,m,{ h with ext:=hx,row:=h.row.mod m (by simpa using h.ne),mp:=hm,BN:=by rw [hn];exact h.BN,ow:=h.ow.modLt m ?_,oe:=h.oe.modLt m ?_,ov:=h.ov.modLt m ?_ }⟩
  all_goals
   intro j hj
   have:j=i:=by simpa using hj
   have:=h.iB
   omega
end
end Go.Proofs.YtifploedaacedaaGreatDoorE
namespace Go.Proofs.YtifploedaacedaaGreatDoorE
open Go Go.E Go.Proofs
theorem zhG {B:Nat} {st:SS} {v:Value} {c row:List Value} {z n bt:Nat} (h:Own B st v c z n) (hb:B≤st.next) (hl:st.lim≤B) (hr:row.length=z) (hz:0<z) (h1:row.all one=true) (hs:(n+2)*bt≤2^44) (hn:n+1≤2^44):
  ∃ k s',(st.new (.cells row z)).app z bt v (.slice (some ⟨st.next,0,none⟩) 1 1)=some (.slice (some ⟨k,0,none⟩) (n+1) (n+1),s')∧st.next≤k∧Own B s' (.slice (some ⟨k,0,none⟩) (n+1) (n+1)) (c++row) z (n+1)∧s'.lim=st.lim∧st.next≤s'.next∧
   ∀ j,j<st.next→blkOf v≠some j→s'.mem.get j=st.mem.get j:=by
 obtain ⟨k,s',g1,g2,g3,g4,g5,g6⟩:=h.pushN hb hl hr hz h1 hs hn
 exact ⟨k,s',g1,g2,g3,g4,g5,fun j hj hv=>g6 j hj fun q e=>hv (by rw [e];rfl)⟩
theorem zfn {B:Nat} {st s':SS} {v:Value} {c:List Value} {z n:Nat} (h:Own B st v c z n) (hn:st.next≤s'.next) (hk:∀ j,j<st.next→blkOf v=some j→s'.mem.get j=st.mem.get j):Own B s' v c z n:=by
 obtain ⟨h1,h2⟩:=h
 refine ⟨h1,h2.imp id ?_⟩
 rintro ⟨i,e,h0,hm,hb,hi⟩
 exact ⟨i,e,h0,(hk i hi (by rw [e];rfl)).trans hm,hb,zll hi hn⟩
theorem zcK {B:Nat} {st:SS} {v:Value} {c:List Value} {z n:Nat} (h:Own B st v c z n) {j:Nat} (hj:blkOf v=some j):B≤j∧j<st.next:=by
 obtain ⟨_,⟨rfl,_⟩ | ⟨i,rfl,_,_,hb,hi⟩⟩:=h
 ·cases hj
 ·cases hj;exact ⟨hb,hi⟩
theorem zk5 (k n m:Nat):(Value.slice (some ⟨k,0,none⟩) n m).cells.toList=[Value.slice (some ⟨k,0,none⟩) n m]:=rfl
section
variable {st0 st : SS} {B b i : Nat} {vw ve vv : Value} {l : Lay} {its : List WItem}
theorem Bld.word (h:Bld st0 st B b i vw ve vv l its) (x:Item) (hx:Rd st0 x.2.1 (rowsF valRow x.1.args) 3 x.1.args.length∧Rd st0 x.2.2 (rowsF prRow x.1.prs) 5 x.1.prs.length) (ho:one x.2.1=true∧one x.2.2=true) (hn:its.length≤100000):
  ∃ vw' s1 s2,(st.new (.cells (wdRow (l.pl,x)) 6)).app 6 96 vw (.slice (some ⟨st.next,0,none⟩) 1 1)=some (vw',s1)∧s1.stV b 2 1 vw'=some s2∧Bld st0 s2 B b i vw' ve vv { l with wds:=l.wds++[(l.pl,x.1)] } (its++[(l.pl,x)])∧Frm b i vw st s2:=by
 have hlB:st.lim≤B:=by rw [h.ext.lim];have:=h.ll;have:=h.b0;have:=h.bB;omega
 obtain ⟨k,s1,g1,g2,g3,g4,g5,g6⟩:=zhG (row:=wdRow (l.pl,x)) (bt:=96) h.ow h.BN hlB rfl (by omega) (by simp only [wdRow,lnRow,List.all_cons,List.all_nil,ho.1,ho.2];rfl) (by omega) (by omega)
 have old:∀ j,j<B→s1.mem.get j=st.mem.get j:=fun j hj=>g6 j (by have:=h.BN;omega) fun e=>by have:=(zcK h.ow e).1;omega
 have row1:At s1 b (bldRow l.pl i vw ve vv):=⟨(old b h.bB).trans h.row.1,zll h.row.lt g5,by rw [g4];exact h.row.2.2⟩
 have e1:Ext st0 s1:=⟨zlt h.ext.next g5,g4.trans h.ext.lim,fun j hj=>(old j (by have:=h.b0;have:=h.bB;omega)).trans (h.ext.keep j hj)⟩
 obtain ⟨s2,e2,a2,m2,n2⟩:=row1.stV (k:=2) (n:=1) (v:=.slice (some ⟨k,0,none⟩) (its.length+1) (its.length+1)) (zk5 _ _ _) rfl rfl (row':=bldRow l.pl i (.slice (some ⟨k,0,none⟩) (its.length+1) (its.length+1)) ve vv) rfl
 have mlt:∀ j,j∈[b]→j<B:=by
  intro j hj
  have e:j=b:=by simpa using hj
  rw [e]
  exact h.bB
 have hne:∀ (u:Value),(∀ j,blkOf vw=some j→blkOf u≠some j)→∀ j,j<st.next→blkOf u=some j→s1.mem.get j=st.mem.get j:=fun u hu j hj e=>g6 j hj fun e'=>hu j e' e
 refine ⟨_,s1,s2,g1,e2,{ h with ext:=zaB e1 m2 h.b0,row:=a2,mp:=m2.get (by have:=h.iB;have:=h.BN;omega) (by simpa using Ne.symm h.ne) ((old i h.iB).trans h.mp),BN:=by rw [n2];have:=h.BN;omega,ow:=?_,oe:=?_,ov:=?_,d1:=?_,wds:=?_,itr:=?_ },⟨by rw [n2];exact g5,m2.lim.trans g4,fun j a1 a2 a3 a4=>(m2.keep j (zll a1 g5) (by simpa using a2)).trans (g6 j a1 a4)⟩⟩
 ·rw [zbS,zcV,List.length_append];exact g3.modLt m2 mlt
 ·exact (zfn h.oe g5 (hne ve fun j e=>(h.d1 j e).1)).modLt m2 mlt
 ·exact (zfn h.ov g5 (hne vv fun j e=>(h.d1 j e).2)).modLt m2 mlt
 ·intro j hj
  cases hj
  exact ⟨fun e=>by have:=(zcK h.oe e).2;omega,fun e=>by have:=(zcK h.ov e).2;omega⟩
 ·simp only [List.map_append,h.wds];rfl
 ·intro y hy
  rcases List.mem_append.1 hy with hy | hy
  ·exact h.itr y hy
  ·have:y=(l.pl,x):=by simpa using hy
   subst this
   exact hx
theorem Bld.entry (h:Bld st0 st B b i vw ve vv l its) (x:Val) (ln col:Nat) (hn:l.ents.length≤100000):
  ∃ vv' s1 s2 ve' s3 s4,(st.new (.cells (valRow x) 3)).app 3 32 vv (.slice (some ⟨st.next,0,none⟩) 1 1)=some (vv',s1)∧s1.stV b 4 1 vv'=some s2∧s2.ld b 3=some ve∧Ext st0 s2∧(∀ j,j<st.next→blkOf vv≠some j→j≠b→s2.mem.get j=st.mem.get j)∧
   (s2.new (.cells (entRow (x,ln,col)) 2)).app 2 16 ve (.slice (some ⟨s2.next,0,none⟩) 1 1)=some (ve',s3)∧s3.stV b 3 1 ve'=some s4∧Bld st0 s4 B b i vw ve' vv' { l with ents:=l.ents++[(x,ln,col)] } its:=by
 have hlB:st.lim≤B:=by rw [h.ext.lim];have:=h.ll;have:=h.b0;have:=h.bB;omega
 have ov:=h.ov
 rw [show (l.ents.length)=(l.ents.map (·.1)).length by simp] at ov
 obtain ⟨k,s1,g1,g2,g3,g4,g5,g6⟩:=zhG (row:=valRow x) (bt:=32) ov h.BN hlB rfl (by omega) rfl (by simp;omega) (by simp;omega)
 have old:∀ j,j<B→s1.mem.get j=st.mem.get j:=fun j hj=>g6 j (by have:=h.BN;omega) fun e=>by have:=(zcK h.ov e).1;omega
 have row1:At s1 b (bldRow l.pl i vw ve vv):=⟨(old b h.bB).trans h.row.1,zll h.row.lt g5,by rw [g4];exact h.row.2.2⟩
 have e1:Ext st0 s1:=⟨zlt h.ext.next g5,g4.trans h.ext.lim,fun j hj=>(old j (by have:=h.b0;have:=h.bB;omega)).trans (h.ext.keep j hj)⟩
 generalize hV:(Value.slice (some ⟨k,0,none⟩) ((l.ents.map (·.1)).length+1) ((l.ents.map (·.1)).length+1))=V at*
 have hVc:V.cells.toList=[V]∧one V=true∧blkOf V=some k:=by rw [← hV];exact ⟨rfl,rfl,rfl⟩
 obtain ⟨s2,e2,a2,m2,n2⟩:=row1.stV (k:=4) (n:=1) (v:=V) hVc.1 rfl (by simp [hVc.2.1]) (row':=bldRow l.pl i vw ve V) rfl
 have mlt:∀ j,j∈[b]→j<B:=by
  intro j hj
  have e:j=b:=by simpa using hj
  rw [e]
  exact h.bB
 have ow2:Own B s2 vw (rowsF wdRow its) 6 its.length:=(zfn h.ow g5 fun j hj e=>g6 j hj (h.d1 j e).2).modLt m2 mlt
 have oe2:Own B s2 ve (rowsF entRow l.ents) 2 l.ents.length:=(zfn h.oe g5 fun j hj e=>g6 j hj (h.d2 j e)).modLt m2 mlt
 have ov2:=g3.modLt m2 mlt
 have x2:Ext st0 s2:=zaB e1 m2 h.b0
 have BN2:B≤s2.next:=by rw [n2];have:=h.BN;omega
 have hlB2:s2.lim≤B:=by rw [x2.lim];have:=h.ll;have:=h.b0;have:=h.bB;omega
 obtain ⟨k2,s3,q1,q2,q3,q4,q5,q6⟩:=zhG (row:=entRow (x,ln,col)) (bt:=16) oe2 BN2 hlB2 rfl (by omega) rfl (by omega) (by omega)
 have old2:∀ j,j<B→s3.mem.get j=s2.mem.get j:=fun j hj=>q6 j (by omega) fun e=>by have:=(zcK oe2 e).1;omega
 have row3:At s3 b (bldRow l.pl i vw ve V):=⟨(old2 b h.bB).trans a2.1,zll a2.lt q5,by rw [q4];exact a2.2.2⟩
 have x3:Ext st0 s3:=⟨zlt x2.next q5,q4.trans x2.lim,fun j hj=>(old2 j (by have:=h.b0;have:=h.bB;omega)).trans (x2.keep j hj)⟩
 obtain ⟨s4,e4,a4,m4,n4⟩:=row3.stV (k:=3) (n:=1) (v:=.slice (some ⟨k2,0,none⟩) (l.ents.length+1) (l.ents.length+1)) (zk5 _ _ _) rfl rfl (row':=bldRow l.pl i vw (.slice (some ⟨k2,0,none⟩) (l.ents.length+1) (l.ents.length+1)) V) rfl
 have hk2:blkOf V≠some k2:=fun e=>by have:=(zcK ov2 e).2;omega
 refine ⟨V,s1,s2,_,s3,s4,g1,e2,a2.ld,x2,fun j hj hv hb=>(m2.keep j (by omega) (by simpa using hb)).trans (g6 j hj hv),q1,e4,{ h with ext:=zaB x3 m4 h.b0,row:=a4,mp:=m4.get (by have:=h.iB;omega) (by simpa using Ne.symm h.ne) ((old2 i h.iB).trans (m2.get (by have:=h.iB;have:=h.BN;omega) (by simpa using Ne.symm h.ne) ((old i h.iB).trans h.mp))),BN:=by rw [n4];omega,ow:=?_,oe:=?_,ov:=?_,d1:=?_,d2:=?_ }⟩
 ·exact (zfn ow2 q5 fun j hj e=>q6 j hj (h.d1 j e).1).modLt m4 mlt
 ·rw [zbS,zcV,List.length_append];exact q3.modLt m4 mlt
 ·have:=(zfn ov2 q5 fun j hj e=>q6 j hj fun e'=>by
   have hj2:=(zcK h.oe e').2
   rw [hVc.2.2] at e
   cases e
   omega).modLt m4 mlt
  have e5:(l.ents++[(x,ln,col)]).map (·.1)=l.ents.map (·.1)++[x]:=by simp
  have e6:(l.ents++[(x,ln,col)]).length=(l.ents.map (·.1)).length+1:=by simp
  show Own B s4 V (rowsF valRow ((l.ents++[(x,ln,col)]).map (·.1))) 3 (l.ents++[(x,ln,col)]).length
  rw [e5,e6,zbS,zcV]
  exact this
 ·intro j hj
  refine ⟨fun e=>?_,fun e=>?_⟩
  ·cases e
   have:=(zcK ow2 hj).2
   omega
  ·rw [hVc.2.2] at e
   cases e
   have:=(zcK h.ow hj).2
   omega
 ·intro j hj e
  cases hj
  exact hk2 e
end
end Go.Proofs.YtifploedaacedaaGreatDoorE
