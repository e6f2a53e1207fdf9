/- Parts of the proof of UseqCalls, packed by a program: an evaluator over the given code, functions as plain texts, their laws. -/
import Derived.Test.YtifploedaacedaaGreatDoorPCD
set_option linter.unusedVariables false
set_option linter.unusedSimpArgs false
namespace Go.Proofs.YtifploedaacedaaGreatDoorE
open Go Go.E Go.Proofs
theorem zon {α:Type} {f:α→List Value} {z:Nat} (hz:∀ x,(f x).length=z) (x:α):∀ (l:List α) (k:Nat),k<l.length→(rowsF f l).take (k*z)++(f x++(rowsF f l).drop (k*z+z))=rowsF f (l.set k x)
 | [],k,h=>by simp at h
 | a::r,0,_=>by
   rw [zbE,List.set_cons_zero,zbE,Nat.zero_mul,List.take_zero,List.nil_append,Nat.zero_add,List.drop_append,hz,Nat.sub_self,List.drop_of_length_le (by rw [hz];exact zlr _)]
   simp
 | a::r,k+1,h=>by
   have ih:=zon hz x r k (by simpa using h)
   have e1:(k+1)*z-z=k*z:=by rw [Nat.add_mul];omega
   have e2:(k+1)*z+z-z=k*z+z:=by rw [Nat.add_mul];omega
   have e3:z≤(k+1)*z:=by rw [Nat.add_mul];omega
   rw [zbE,List.set_cons_succ,zbE,List.take_append,List.drop_append,hz,e1,e2,List.take_of_length_le (by rw [hz];exact e3),List.drop_of_length_le (by rw [hz];omega),List.nil_append,List.append_assoc,ih]
theorem zs9 {α:Type} {f:α→List Value} {z:Nat} (hz:∀ x,(f x).length=z) (l:List α) (k:Nat) (x:α) (hk:k<l.length):zcD (rowsF f l) (k*z) (f x)=some (rowsF f (l.set k x)):=by
 have h1:(k+1)*z≤l.length*z:=Nat.mul_le_mul_right _ hk
 rw [Nat.add_mul,Nat.one_mul] at h1
 rw [zbl (by rw [hz,zhJ hz];exact h1),hz,zon hz x l k hk]
theorem Own.put {b:Nat} {st:SS} {v:Value} {α:Type} {f:α→List Value} {z:Nat} (hz:∀ x,(f x).length=z) {l:List α} {n:Nat} (h:Own b st v (rowsF f l) z n) (hn:l.length=n) (hl:st.lim≤b) {k:Nat} (hk:k<n) (x:α) (h1:(f x).all one=true):
  ∃ i st',zax v (k:Int) z=some (i,k*z)∧b≤i∧i<st.next∧st.st i (k*z) (f x)=some st'∧(∀ u:Value,u.cells.toList=f x→st.stV i (k*z) z u=some st')∧Own b st' v (rowsF f (l.set k x)) z n∧Mod [i] st st'∧st'.next=st.next:=by
 obtain ⟨h2,⟨rfl,h0⟩ | ⟨i,rfl,h0,hm,hb,hi⟩⟩:=h
 ·omega
 ·have hs:=SS.st_cells hm (by omega) h1 (zs9 hz l k x (by omega))
  refine ⟨i,_,?_,hb,hi,hs,fun u hu=>?_,⟨?_,.inr ⟨i,rfl,h0,by simp,hb,by simpa using hi⟩⟩,⟨zlr _,rfl,fun j hj hS=>SS.set_old (by simpa using hS)⟩,rfl⟩
  ·unfold zax
   simp [hk]
  ·unfold SS.stV
   have:u.cells.size=z:=by rw [← hz x,← hu];simp
   rw [this,hu,hs]
   simp
  ·rw [zhJ hz,List.length_set,hn]
def zdJ (w:Wd):List Value:=[.int .u64 (zfz w)]
def zaZ (e:List UInt8×Int):List Value:=[.string (mkS e.1),.int .i64 e.2]
abbrev NN:List Value:=[.slice none 0 0,.slice none 0 0]
abbrev Z2:List Value:=[.int .i64 0,.int .i64 0]
def inR (N:Nat) (T:List (Int×Int)):Bool:=T.any fun t=>decide ((N:Int)<t.1+t.2)
theorem zta {x:Int} {n:Nat}:fitsT x n=true↔0≤x∧x<2^n:=by unfold fitsT;rw [decide_eq_true_eq]
theorem zpE {s tw a:Int} (ha:0≤a∧a≤4096) (ht:0≤tw∧tw<2048):∀ t∈zcr s tw a,0≤t.1∧t.1≤100000∧0≤t.2∧t.2≤100000:=by
 intro t h
 unfold zcr at h
 repeat' (split at h)
 all_goals first
  | (cases h;done)
  | (simp only [List.mem_cons,List.not_mem_nil,or_false] at h
     rcases h with rfl | rfl<;>simp only<;>omega)
  | (simp only [List.mem_cons,List.not_mem_nil,or_false] at h
     subst h
     simp only
     omega)
theorem zvt {w:Wd} (h:zii w):0≤w.getD 10 0∧w.getD 10 0<2048:=by
 have h1:=zom.1 h.2 10 (by omega)
 have e:zat 10=11:=rfl
 rw [zta,e] at h1
 exact ⟨h1.1,by have:=h1.2;simpa using this⟩
theorem getD_some {w:Wd} {k:Nat} (h:k<w.length):w[k]?=some (w.getD k 0):=by
 rw [List.getD_eq_getElem?_getD,zge h];rfl
theorem zuq [Sym] {base st0:SS} (hx0:Ext base st0) (hll:base.lim≤base.next) {T:List (Int×Int)} (hT:∀ t∈T,0≤t.1∧t.1≤100000∧0≤t.2∧t.2≤100000) (hTl:T.length≤10) {x:WItem} {b' w' t38 v wv ev:Value} {n j:Int} {t2 t3 r xb N:Nat}
  (hN:(lenV wv).bind (asI .i64)=some (N:Int)) (hr:At st0 r [wv,ev]) (a2:At st0 t2 NN) (a3:At st0 t3 Z2) (ax:At st0 xb (wdRow x)) (hne:t2≠t3) (h2:base.next≤t2) (h3:base.next≤t3) (hxb:xb≠t2) (p0:Pr) (ps:List Pr) (hps:x.2.1.prs=p0::ps) (hp:Rd base x.2.2.2 (rowsF prRow x.2.1.prs) 5 x.2.1.prs.length)
  (hv:Rd st0 v (rowsF zcy T) 2 T.length):∀ (k i:Nat) (s:SS),T.length=k+i→Ext st0 s→
  ∃ s',if inR N (T.drop i)=true then zan 12 [b',ptr t2 0,ptr t3 0,ptr r 0,ptr xb 0,w',t38,.int .i64 n,.int .i64 j,v,.int .i64 T.length,.int .i64 i] s=some (1,[ptr t2 0,ptr t3 0],s')∧Ext base s'∧At s' t2 NN∧At s' t3 [.int .i64 x.2.1.ln,.int .i64 p0.col]
   else zan 12 [b',ptr t2 0,ptr t3 0,ptr r 0,ptr xb 0,w',t38,.int .i64 n,.int .i64 j,v,.int .i64 T.length,.int .i64 i] s=some (0,[b',ptr t2 0,ptr t3 0,ptr r 0,ptr xb 0,w',t38,.int .i64 n,.int .i64 j],s')∧Ext st0 s':=by
 intro k
 induction k with
 | zero=>
   intro i s hk he
   have h:¬ (i:Int)<(T.length:Int):=by omega
   rw [List.drop_of_length_le (by omega)]
   refine ⟨s,?_⟩
   rw [if_neg (by simp [inR])]
   refine ⟨zcS _ _ _ _ _ _ _ _ _ _ _ _ s ?_,he⟩
   simp only [zcA,zdf h,zcf]
 | succ k ih=>
   intro i s hk he
   have h:(i:Int)<(T.length:Int):=by omega
   obtain ⟨t,ht⟩:∃ t,T[i]?=some t:=⟨_,zge (by omega)⟩
   obtain ⟨q1,q2,q3,q4⟩:=hT t (zmg ht)
   obtain ⟨p,b1,b2,_⟩:=(hv.ext he).load (j:=(i:Int)) (by omega) h (za8 (f:=zcy) (z:=2) (fun _=>rfl) T i t ht) rfl
   have b2':s.ldN p.1 p.2 2=some (.agg (zcy t).toArray):=b2
   have hlm:s.lim≤s.next:=((hx0.trans he).ll hll)
   obtain ⟨s4,e4,a4,x4,n4⟩:=za1 (st:=s) hlm (r:=Z2) (row:=zcy t) (v:=.agg (zcy t).toArray) (zaB _) rfl rfl rfl
   have e4':(s.new (.cells [.int .i64 0,.int .i64 0] 0)).stV s.next 0 2 (.agg (zcy t).toArray)=some s4:=e4
   have he4:=he.trans x4
   have c5:zaM (ptr s.next 0) 2 0 1=some (s.next,0):=rfl
   have c7:zaM (ptr s.next 0) 2 1 1=some (s.next,1):=rfl
   have l6:s4.ld s.next 0=some (.int .i64 t.1):=a4.ld
   have l8:s4.ld s.next 1=some (.int .i64 t.2):=a4.ld
   have hw9:IntKind.wrap .i64 (t.1+t.2)=t.1+t.2:=wrap64 (by omega) (by omega)
   have l11:s4.ld r 0=some wv:=(hr.ext he4).ld
   have hd:=drop_cons ht
   by_cases hc:(N:Int)<t.1+t.2
   ·obtain ⟨i15,z15,g1,g2,g3⟩:=hp.elem (j:=(0:Int)) (by omega) (by rw [hps];simp)
    obtain ⟨p17,f1,_,f3⟩:=((hp.ext hx0).ext he4).load (j:=(0:Int)) (by omega) (by rw [hps];simp) (row:=prRow p0) (by rw [hps];rfl) rfl
    have hp17:p17.1<base.next:=by rw [g1] at f1;cases f1;exact g3
    have l18:s4.ld p17.1 (p17.2+1)=some (.int .i64 p0.col):=f3 1 (by omega)
    have l14:s4.ld xb (0+1)=some (.int .i64 x.2.1.ln):=(ax.ext he4).ld
    have l16:s4.ld xb (0+1+4)=some x.2.2.2:=(ax.ext he4).ld
    have a24:=a2.ext he4
    have a34:=a3.ext he4
    obtain ⟨s20,e20,a20,m20,n20⟩:=a24.sto (k:=0) (vs:=NN) (row':=NN) rfl rfl
    obtain ⟨s22,e22,a22,m22,n22⟩:=(a34.mod m20 (by simpa using hne.symm)).sto (k:=0) (vs:=[.int .i64 x.2.1.ln,.int .i64 p0.col]) (row':=[.int .i64 x.2.1.ln,.int .i64 p0.col]) rfl rfl
    refine ⟨s22,?_⟩
    rw [if_pos (by unfold inR;rw [hd,List.any_cons,zdt hc];rfl)]
    refine ⟨zcS _ _ _ _ _ _ _ _ _ _ _ _ s ?_,zaA (zaA (hx0.trans he4) m20 h2) m22 h3,a20.mod m22 (by simpa using hne),a22⟩
    simp only [zcA,zdt h,zct,b1,b2',e4',c5,c7,l6,l8,zob,zaa,hw9,zad,l11,hN,zdt hc,l14,l16,f1,l18,zcJ hxb,zcJ (show p17.1≠t2 by omega),e20,e22]
   ·obtain ⟨s',hs'⟩:=ih (i+1) s4 (by omega) he4
    have hw1:=zaX (i:=i) (by omega)
    refine ⟨s',?_⟩
    have e:inR N (T.drop i)=inR N (T.drop (i+1)):=by unfold inR;rw [hd,List.any_cons,zdf hc,Bool.false_or]
    rw [e]
    have go:∀ z,zan 12 [b',ptr t2 0,ptr t3 0,ptr r 0,ptr xb 0,w',t38,.int .i64 n,.int .i64 j,v,.int .i64 T.length,.int .i64 ((i+1:Nat):Int)] s4=some z→zan 12 [b',ptr t2 0,ptr t3 0,ptr r 0,ptr xb 0,w',t38,.int .i64 n,.int .i64 j,v,.int .i64 T.length,.int .i64 i] s=some z:=fun z hz=>by
     refine zcS _ _ _ _ _ _ _ _ _ _ _ _ s ?_
     simp only [zcA,zdt h,zct,b1,b2',e4',c5,c7,l6,l8,zob,zaa,hw9,zad,l11,hN,zdf hc,zcf,hw1]
     exact hz
    split
    ·rename_i hh
     rw [if_pos hh] at hs'
     exact ⟨go _ hs'.1,hs'.2⟩
    ·rename_i hh
     rw [if_neg hh] at hs'
     exact ⟨go _ hs'.1,hs'.2⟩
theorem zur {M:Nat} {x:PLine} (h:LineOk M x) (hM:M≤1099511627776):zrF x.prs:=⟨zlt h.sp hM,fun p hp=>by
 obtain ⟨h1,h2,h3,h4⟩:=h.prs p hp
 exact ⟨h1,h2,by omega,by omega⟩⟩
def LayW (base:SS) (t2 t3 r N:Nat) (b' wv:Value) (res:Option (Nat×List Value×SS)):Except (Nat×Nat) (List Wd)→Prop
 | .error e=>∃ s',res=some (1,[ptr t2 0,ptr t3 0],s')∧Ext base s'∧At s' t2 NN∧At s' t3 [.int .i64 e.1,.int .i64 e.2]
 | .ok ws=>∃ s',res=some (0,[b',ptr t2 0,ptr t3 0,ptr r 0],s')∧Ext base s'∧At s' t2 NN∧At s' t3 Z2∧At s' r [wv,.slice none 0 0]∧Own (base.next+3) s' wv (rowsF zdJ ws) 1 N∧ws.length=N
theorem zvu [Sym] {st0 base:SS} {B b i M:Nat} {vw ve vv wv:Value} {l:Lay} {its:List WItem} (hB:Bld st0 base B b i vw ve vv l its) (hL:LayOk M l) (hM:M≤100000) (hg:Gd base)
  (hN:(lenV wv).bind (asI .i64)=some ((sizeT l:Nat):Int)):∀ (k j:Nat) (ws:List Wd) (s:SS),its.length=k+j→ws.length=sizeT l→Ext base s→At s base.next NN→At s (base.next+1) Z2→At s (base.next+2) [wv,.slice none 0 0]→Own (base.next+3) s wv (rowsF zdJ ws) 1 (sizeT l)→
  LayW base base.next (base.next+1) (base.next+2) (sizeT l) (ptr b 0) wv (zan 6 [ptr b 0,ptr base.next 0,ptr (base.next+1) 0,ptr (base.next+2) 0,vw,.int .i64 its.length,.int .i64 j] s) (zc6 l.nms (sizeT l) (l.wds.drop j) ws):=by
 have hll:base.lim≤base.next:=by rw [hB.ext.lim];have:=hB.ll;have:=hB.ext.next;omega
 have hil:its.length≤2048:=by
  have h1:=hL.wlen
  have h2:=hL.pl
  rw [← hB.wds,List.length_map] at h1
  omega
 obtain ⟨hat,hNb⟩:=zl8 hL
 intro k
 induction k with
 | zero=>
   intro j ws s hk hws he a2 a3 ar ow
   have h:¬ (j:Int)<(its.length:Int):=by omega
   have hd:l.wds.drop j=[]:=List.drop_of_length_le (by rw [← hB.wds,List.length_map];omega)
   rw [hd]
   refine ⟨s,zcb _ _ _ _ _ _ _ s ?_,he,a2,a3,ar,ow,hws⟩
   simp only [zb4,zdf h,zcf]
 | succ k ih=>
   intro j ws s hk hws he a2 a3 ar ow
   have h:(j:Int)<(its.length:Int):=by omega
   obtain ⟨x,hx⟩:∃ x,its[j]?=some x:=⟨_,zge (by omega)⟩
   have hwx:l.wds[j]?=some (x.1,x.2.1):=by rw [← hB.wds,List.getElem?_map,hx];rfl
   have hmem:=zmg hwx
   obtain ⟨hlo,hpne,hln⟩:=hL.prs _ hmem
   have hxat:x.1<sizeT l:=hat _ hmem
   have hd:=drop_cons hwx
   obtain ⟨p0,ps,hps⟩:∃ p0 ps,x.2.1.prs=p0::ps:=by
    cases hp:x.2.1.prs with
    | nil=>exact absurd hp hpne
    | cons a r=>exact ⟨a,r,rfl⟩
   have hsb:=hB.then he
   have hlm:s.lim≤s.next:=he.ll hll
   obtain ⟨p1,b1,b2,_⟩:=hsb.ow.rd.load (j:=(j:Int)) (by omega) h (za8 (f:=wdRow) (z:=6) (fun _=>rfl) its j x hx) rfl
   have b2':s.ldN p1.1 p1.2 6=some (.agg (wdRow x).toArray):=b2
   obtain ⟨s4,e4,a4,x4,n4⟩:=za1 (st:=s) hlm (r:=wdRow (0,⟨0,[],[],[],[]⟩,.slice none 0 0,.slice none 0 0)) (row:=wdRow x) (v:=.agg (wdRow x).toArray) (zaB _) rfl (by
    obtain ⟨hr1,hr2⟩:=hB.itr x (zmg hx)
    have o1:one x.2.2.1=true:=by obtain ⟨_,⟨e,_⟩ | ⟨i,c,e,_⟩⟩:=hr1<;>rw [e]<;>rfl
    have o2:one x.2.2.2=true:=by obtain ⟨_,⟨e,_⟩ | ⟨i,c,e,_⟩⟩:=hr2<;>rw [e]<;>rfl
    simp only [wdRow,lnRow,List.all_cons,List.all_nil,o1,o2]
    rfl) rfl
   have e4':(s.new (.cells [.int .i64 0,.int .i64 0,.string ⟨#[]⟩,.string ⟨#[]⟩,.slice none 0 0,.slice none 0 0] 0)).stV s.next 0 6 (.agg (wdRow x).toArray)=some s4:=e4
   have he4:=he.trans x4
   have hsb4:=hB.then he4
   have l5:s4.ldN s.next 1 5=some (.agg (lnRow x.2).toArray):=a4.ldC rfl
   have hpr:Rd st0 x.2.2.2 (rowsF prRow x.2.1.prs) 5 x.2.1.prs.length:=(hB.itr x (zmg hx)).2
   have hprb:=hpr.ext hB.ext
   obtain ⟨n6,u,hn6,hu,huo,c6⟩:=zs3 l.nms hL.nms x.2 (zur hlo (by omega)) b i (.int .i64 l.pl) vw ve vv s4 (hg.ext he4) hsb4.row.1 hsb4.row.lt hsb4.mp (by have:=hsb4.iB;have:=hsb4.BN;omega) (hprb.ext he4)
   have x6:Ext s4 (s4.adv n6):=(Ext.refl _).adv hn6
   have he6:=he4.trans x6
   obtain ⟨s10,e10,a10,x10,n10⟩:=za1 (n:=12) (st:=s4.adv n6) (he6.ll hll) (r:=Z12) (row:=wRow u) (v:=wV u) (zaB _) (by rw [za6,hu]) (zdG u) rfl
   have e10':((s4.adv n6).new (.cells [.int .i64 0,.int .i64 0,.int .i64 0,.int .i64 0,.int .i64 0,.int .i64 0,.int .i64 0,.int .i64 0,.int .i64 0,.int .i64 0,.int .i64 0,.int .i64 0] 0)).stV n6 0 12 (wV u)=some s10:=e10
   have he10:=he6.trans x10
   have he4_10:Ext s4 s10:=x6.trans x10
   have a4_10:=a4.ext he4_10
   have t0:∀ (a:Value) (z:Int),zao (.tuple #[a,.int .i64 z]) 0=some a:=fun _ _=>rfl
   have t1:∀ (a:Value) (z:Int),(zao (.tuple #[a,.int .i64 z]) 1).bind (asI .i64)=some z:=fun _ _=>rfl
   have hE:zc6 l.nms (sizeT l) (l.wds.drop j) ws=if (zbj l.nms zaO x.2.1.prs).2≠0 then .error (x.2.1.ln,(zbj l.nms zaO x.2.1.prs).2)
    else if inR (sizeT l) (zcr ((zbj l.nms zaO x.2.1.prs).1.getD 8 0) ((zbj l.nms zaO x.2.1.prs).1.getD 10 0) x.1)=true then .error (x.2.1.ln,((x.2.1.prs.head?).map (·.col)).getD 0)
    else zc6 l.nms (sizeT l) (l.wds.drop (j+1)) (ws.set x.1 (zbj l.nms zaO x.2.1.prs).1):=by rw [hd];rfl
   have hlt2:base.next<s.next:=a2.lt
   have hlt3:base.next+1<s.next:=a3.lt
   by_cases hc:(zbj l.nms zaO x.2.1.prs).2=0
   ·rw [if_neg (fun hh=>hh hc)] at hE
    have hcz:¬ (0:Int)<(((zbj l.nms zaO x.2.1.prs).2:Nat):Int):=by omega
    have hue:=huo hc
    have hwok:=zqH l.nms x.2.1.prs
    generalize hw:(zbj l.nms zaO x.2.1.prs).1=w at*
    subst hue
    have l16:s10.ldN n6 0 12=some (wV u):=a10.ldN (by rw [za6,hu])
    have l17:s10.ld s.next 0=some (.int .i64 x.1):=a4_10.ld
    have hto:=zvt hwok
    obtain ⟨v18,s18,c18,x18,o18⟩:=zpr u (x.1:Int) (u.getD 8 0) (u.getD 10 0) (getD_some (by omega)) (getD_some (by omega)) (by omega) (by omega) s10 (he10.ll hll)
    have he18:=he10.trans x18
    have hT:=zpE (s:=u.getD 8 0) (a:=(x.1:Int)) (by omega) hto
    have hTl:(zcr (u.getD 8 0) (u.getD 10 0) (x.1:Int)).length≤10:=by
     unfold zcr
     repeat' split
     all_goals simp
    obtain ⟨s20,h20⟩:=zuq (b':=ptr b 0) (w':=ptr n6 0) (t38:=vw) (n:=its.length) (j:=j) he18 hll hT hTl (x:=x) (N:=sizeT l) hN (ar.ext ((x4.trans he4_10).trans x18)) (a2.ext ((x4.trans he4_10).trans x18)) (a3.ext ((x4.trans he4_10).trans x18)) (a4_10.ext x18) (by omega) (zlr _) (by omega) (by omega) p0 ps hps hprb o18.rd
     _ 0 s18 rfl (Ext.refl _)
    rw [List.drop_zero] at h20
    have hlen:(lenV v18).bind (asI .i64)=some ((zcr (u.getD 8 0) (u.getD 10 0) (x.1:Int)).length:Int):=by rw [o18.len];rfl
    have b0:Nat.beq 0 0=true:=rfl
    have b1':Nat.beq 1 0=false:=rfl
    by_cases hr:inR (sizeT l) (zcr (u.getD 8 0) (u.getD 10 0) (x.1:Int))=true
    ·rw [if_pos hr] at hE h20
     rw [hE]
     obtain ⟨g1,g2,g3,g4⟩:=h20
     have g1':zan 12 [ptr b 0,ptr base.next 0,ptr (base.next+1) 0,ptr (base.next+2) 0,ptr s.next 0,ptr n6 0,vw,.int .i64 its.length,.int .i64 j,v18,.int .i64 (zcr (u.getD 8 0) (u.getD 10 0) (x.1:Int)).length,.int .i64 0] s18=_:=g1
     refine ⟨s20,zcb _ _ _ _ _ _ _ s ?_,g2,g3,by rw [hps];exact g4⟩
     simp only [zb4,zdt h,zct,b1,b2',e4',l5,c6,t0,t1,zob,SS.adv_next,e10',zdf hcz,zcf,l16,l17,zaa,c18,hlen]
     rw [g1',zob]
     simp only [b1',zcf,zob,zgs,zgz]
    ·rw [if_neg hr] at hE h20
     rw [hE]
     obtain ⟨g1,g2⟩:=h20
     have g1':zan 12 [ptr b 0,ptr base.next 0,ptr (base.next+1) 0,ptr (base.next+2) 0,ptr s.next 0,ptr n6 0,vw,.int .i64 its.length,.int .i64 j,v18,.int .i64 (zcr (u.getD 8 0) (u.getD 10 0) (x.1:Int)).length,.int .i64 0] s18=_:=g1
     have he20:=he18.trans g2
     have xs20:Ext s s20:=((x4.trans he4_10).trans x18).trans g2
     have l31:s20.ld (base.next+2) 0=some wv:=(ar.ext xs20).ld
     have l33:s20.ld s.next 0=some (.int .i64 x.1):=(a4_10.ext (x18.trans g2)).ld
     have l35:s20.ldN n6 0 12=some (wV u):=(a10.ext (x18.trans g2)).ldN (by rw [za6,hu])
     obtain ⟨n36,hn36,c36⟩:=zvi u hu (s20.ro s20.next) (hg.ext he20).ro
     rw [if_pos hwok.2] at c36
     have hn36':s20.next≤n36:=hn36
     have x36:Ext s20 (s20.adv n36):=(Ext.refl _).adv hn36'
     have hst:((s20.ro s20.next).adv n36).ro s20.lim=s20.adv n36:=rfl
     have u0:∀ (a:Int) (z:Int),(zao (.tuple #[.int .u64 a,.int .i64 z]) 0).bind (asI .u64)=some a:=fun _ _=>rfl
     have u1:∀ (a:Int) (z:Int),(zao (.tuple #[.int .u64 a,.int .i64 z]) 1).bind (asI .i64)=some z:=fun _ _=>rfl
     have he36:=he20.trans x36
     obtain ⟨iw,s40,f1,f2,f3,f4,_,f6,f7,f8⟩:=Own.put (f:=zdJ) (fun _=>rfl) ((ow.ext xs20).ext x36) hws (by rw [he36.lim];omega) hxat u rfl
     rw [Nat.mul_one] at f1 f4
     have f4':(s20.adv n36).st iw x.1 [.int .u64 (zfz u)]=some s40:=f4
     have xs36:=xs20.trans x36
     have next:=ih (j+1) (ws.set x.1 u) s40 (by omega) (by rw [List.length_set,hws]) (zaA he36 f7 (by omega)) ((a2.ext xs36).mod f7 (by simp;omega)) ((a3.ext xs36).mod f7 (by simp;omega)) ((ar.ext xs36).mod f7 (by simp;omega)) f6
     have hw1:=zaX (i:=j) (by omega)
     have step:∀ z,zan 6 [ptr b 0,ptr base.next 0,ptr (base.next+1) 0,ptr (base.next+2) 0,vw,.int .i64 its.length,.int .i64 ((j+1:Nat):Int)] s40=some z→zan 6 [ptr b 0,ptr base.next 0,ptr (base.next+1) 0,ptr (base.next+2) 0,vw,.int .i64 its.length,.int .i64 j] s=some z:=fun z hz=>by
      refine zcb _ _ _ _ _ _ _ s ?_
      simp only [zb4,zdt h,zct,b1,b2',e4',l5,c6,t0,t1,zob,SS.adv_next,e10',zdf hcz,zcf,l16,l17,zaa,c18,hlen]
      rw [g1',zob]
      simp only [b0,zct,zaa,zob,zgs,zgz,zad,l31,l33,l35,c36,u0,u1,hst,f1,f4',hw1]
      exact hz
     cases hz:zc6 l.nms (sizeT l) (l.wds.drop (j+1)) (ws.set x.1 u) with
     | error e=>
       rw [hz] at next
       obtain ⟨s',d1,d2⟩:=next
       exact ⟨s',step _ d1,d2⟩
     | ok ws'=>
       rw [hz] at next
       obtain ⟨s',d1,d2⟩:=next
       exact ⟨s',step _ d1,d2⟩
   ·rw [if_pos hc] at hE
    rw [hE]
    have hcz:(0:Int)<(((zbj l.nms zaO x.2.1.prs).2:Nat):Int):=by omega
    have xs10:Ext s s10:=x4.trans he4_10
    have l11:s10.ld s.next 1=some (.int .i64 x.2.1.ln):=a4_10.ld
    obtain ⟨s13,e13,a13,m13,n13⟩:=(a2.ext xs10).sto (k:=0) (vs:=NN) (row':=NN) rfl rfl
    obtain ⟨s15,e15,a15,m15,n15⟩:=((a3.ext xs10).mod m13 (by simp)).sto (k:=0) (vs:=[.int .i64 x.2.1.ln,.int .i64 (zbj l.nms zaO x.2.1.prs).2]) (row':=[.int .i64 x.2.1.ln,.int .i64 (zbj l.nms zaO x.2.1.prs).2]) rfl rfl
    refine ⟨s15,zcb _ _ _ _ _ _ _ s ?_,zaA (zaA he10 m13 (zlr _)) m15 (by omega),a13.mod m15 (by simp),a15⟩
    simp only [zb4,zdt h,zct,b1,b2',e4',l5,c6,t0,t1,zob,SS.adv_next,e10',zdt hcz,l11,zaa,zcJ (show s.next≠base.next by omega),zad,e13,e15]
end Go.Proofs.YtifploedaacedaaGreatDoorE
namespace Go.Proofs.YtifploedaacedaaGreatDoorE
open Go Go.E Go.Proofs
def LayE (base:SS) (t2 t3 r N:Nat) (wv:Value) (ws:List Wd) (es:List (List UInt8×Int)) (res:Option (Nat×List Value×SS)):Except (Nat×Nat) (List (List UInt8×Int))→Prop
 | .error e=>∃ s',res=some (1,[ptr t2 0,ptr t3 0],s')∧Ext base s'∧At s' t2 NN∧At s' t3 [.int .i64 e.1,.int .i64 e.2]
 | .ok es'=>∃ s' ev',res=some (0,[ptr t2 0,ptr t3 0,ptr r 0],s')∧Ext base s'∧At s' t2 NN∧At s' t3 Z2∧At s' r [wv,ev']∧Owns (base.next+3) s' [⟨wv,rowsF zdJ ws,1,N⟩,⟨ev',rowsF zaZ (es++es'),2,(es++es').length⟩]
theorem zus [Sym] {st0 base:SS} {B b i M N:Nat} {vw ve vv wv:Value} {l:Lay} {its:List WItem} (hB:Bld st0 base B b i vw ve vv l its) (hL:LayOk M l) (hn:l.ents.length≤100000) (ws:List Wd)
  (hN:(lenV wv).bind (asI .i64)=some (N:Int)):∀ (k j:Nat) (es:List (List UInt8×Int)) (ev:Value) (s:SS),l.ents.length=k+j→es.length≤j→Ext base s→At s base.next NN→At s (base.next+1) Z2→At s (base.next+2) [wv,ev]→Owns (base.next+3) s [⟨wv,rowsF zdJ ws,1,N⟩,⟨ev,rowsF zaZ es,2,es.length⟩]→
  LayE base base.next (base.next+1) (base.next+2) N wv ws es (zan 20 [ptr b 0,ptr base.next 0,ptr (base.next+1) 0,ptr (base.next+2) 0,vv,.int .i64 l.ents.length,.int .i64 j] s) (zgb l.nms N (l.ents.drop j)):=by
 have hll:base.lim≤base.next:=by rw [hB.ext.lim];have:=hB.ll;have:=hB.ext.next;omega
 intro k
 induction k with
 | zero=>
   intro j es ev s hk hes he a2 a3 ar ow
   have h:¬ (j:Int)<(l.ents.length:Int):=by omega
   rw [List.drop_of_length_le (by omega)]
   refine ⟨s,ev,zbv _ _ _ _ _ _ _ s ?_,he,a2,a3,ar,by rw [List.append_nil];exact ow⟩
   simp only [zbt,zdf h,zcf]
 | succ k ih=>
   intro j es ev s hk hes he a2 a3 ar ow
   have h:(j:Int)<(l.ents.length:Int):=by omega
   obtain ⟨e,hx⟩:∃ e,l.ents[j]?=some e:=⟨_,zge (by omega)⟩
   have hd:=drop_cons hx
   have hE:zgb l.nms N (l.ents.drop j)=match zbU l.nms e.1.nm with
    | none=>.error e.2
    | some x=>if x<0∨(N:Int)≤x then .error e.2 else match zgb l.nms N (l.ents.drop (j+1)) with
      | .error z=>.error z
      | .ok es=>.ok ((e.1.nm,x)::es):=by rw [hd];rfl
   have hsb:=hB.then he
   have hlm:s.lim≤s.next:=he.ll hll
   have ov:=hsb.ov
   rw [show l.ents.length=(l.ents.map (·.1)).length by simp] at ov
   have hmx:(l.ents.map (·.1))[j]?=some e.1:=by rw [List.getElem?_map,hx];rfl
   obtain ⟨p1,b1,b2,_⟩:=ov.rd.load (j:=(j:Int)) (by omega) (by simpa using h) (za8 (f:=valRow) (z:=3) (fun _=>rfl) _ j e.1 hmx) rfl
   have b2':s.ldN p1.1 p1.2 3=some (.agg (valRow e.1).toArray):=b2
   obtain ⟨s4,e4,a4,x4,n4⟩:=za1 (n:=3) (st:=s) hlm (r:=valRow ⟨[],0,0⟩) (row:=valRow e.1) (v:=.agg (valRow e.1).toArray) (zaB _) rfl rfl rfl
   have e4':(s.new (.cells [.string ⟨#[]⟩,.int .i64 0,.int .i64 0] 0)).stV s.next 0 3 (.agg (valRow e.1).toArray)=some s4:=e4
   have he4:=he.trans x4
   have hsb4:=hB.then he4
   have hnl:zam (ptr b 0)=some (ptr b 0):=rfl
   have l7:s4.ld b (0+1)=some (.map (some i)):=hsb4.row.ld
   have l8:s4.ld s.next 0=some (.string (mkS e.1.nm)):=a4.ld
   have l13:s4.ld b (0+3)=some ve:=hsb4.row.ld
   have m7:s4.mapF (.map (some i)) (mkS e.1.nm)=some ((zbU l.nms e.1.nm).map (.int .i64)):=by
    unfold SS.mapF
    simp only [hsb4.mp,zob,zl6]
   obtain ⟨p14,c1,c2,_⟩:=hsb4.oe.rd.load (j:=(j:Int)) (by omega) h (za8 (f:=entRow) (z:=2) (fun _=>rfl) l.ents j e hx) rfl
   have c2':s4.ldN p14.1 p14.2 2=some (.agg (entRow e).toArray):=c2
   have hp14:p14.1<base.next:=by
    obtain ⟨i',z',g1,g2,g3⟩:=hB.oe.rd.elem (j:=(j:Int)) (by omega) h
    rw [g1] at c1;cases c1;exact g3
   have hbt:b≠base.next:=by have:=hB.row.lt;omega
   have a24:=a2.ext x4
   have a34:=a3.ext x4
   obtain ⟨s17,e17,a17,m17,n17⟩:=a24.sto (k:=0) (vs:=NN) (row':=NN) rfl rfl
   obtain ⟨s19,e19,a19,m19,n19⟩:=(a34.mod m17 (by simp)).stV (k:=0) (n:=2) (v:=.agg (entRow e).toArray) (zaB _) rfl rfl (row':=entRow e) rfl
   have hbad:∀ z,z=some (1,[ptr base.next 0,ptr (base.next+1) 0],s19)→LayE base base.next (base.next+1) (base.next+2) N wv ws es z (.error e.2):=fun z hz=>⟨s19,hz,zaA (zaA he4 m17 (zlr _)) m19 (by omega),a17.mod m19 (by simp),a19⟩
   have hp2:zbD (ptr p14.1 p14.2) (ptr base.next 0)=true:=zcJ (by omega)
   have hp1:zbD (ptr b (0+3)) (ptr base.next 0)=true:=zcJ hbt
   rw [hE]
   cases hf:zbU l.nms e.1.nm with
   | none=>
     rw [hf] at m7
     refine hbad _ (zbv _ _ _ _ _ _ _ s ?_)
     simp only [zbt,zdt h,zct,b1,b2',e4',hnl,zad,l7,l8,m7,zob,zac,Option.map_none,zfn,l13,c1,c2',hp1,hp2,e17,e19]
   | some y=>
     rw [hf] at m7
     have ht:(zao (.tuple #[.int .i64 y,.bool true]) 0).bind (asI .i64)=some y:=rfl
     by_cases hy:y<0
     ·simp only [if_pos (show y<0∨(N:Int)≤y from .inl hy)]
      refine hbad _ (zbv _ _ _ _ _ _ _ s ?_)
      simp only [zbt,zdt h,zct,b1,b2',e4',hnl,zad,l7,l8,m7,zob,zac,Option.map_some,zfn,ht,zdt hy,l13,c1,c2',hp1,hp2,e17,e19]
     ·have l31:s4.ld (base.next+2) 0=some wv:=(ar.ext x4).ld
      by_cases hyN:(N:Int)≤y
      ·simp only [if_pos (show y<0∨(N:Int)≤y from .inr hyN)]
       refine hbad _ (zbv _ _ _ _ _ _ _ s ?_)
       simp only [zbt,zdt h,zct,b1,b2',e4',hnl,zad,l7,l8,m7,zob,zac,Option.map_some,zfn,ht,zdf hy,zcf,l31,hN,zdt hyN,l13,c1,c2',hp1,hp2,e17,e19]
      ·simp only [if_neg (show ¬ (y<0∨(N:Int)≤y) by omega)]
       have l43:s4.ld (base.next+2) (0+1)=some ev:=(ar.ext x4).ld
       have hlt2:base.next+2<s.next:=ar.lt
       obtain ⟨q,s46,f1,f2,f3⟩:=(ow.ext x4).push (k:=1) (row:=zaZ (e.1.nm,y)) (bt:=24) rfl (by have:=x4.next;omega) (by rw [he4.lim];omega) rfl (by omega) rfl (by omega) (by omega)
       have f1':(s4.new (.cells ([.string (mkS e.1.nm),.int .i64 y]) 2)).app 2 24 ev (.slice (some ⟨s4.next,0,none⟩) 1 1)=some (.slice (some ⟨q,0,none⟩) (es.length+1) (es.length+1),s46):=f1
       have ar46:At s46 (base.next+2) [wv,ev]:=(ar.ext x4).keepB f3 (by omega) (by simp)
       have a246:=a24.keepB f3 (by omega) (by simp)
       have a346:=a34.keepB f3 (by omega) (by simp)
       obtain ⟨s48,e48,a48,m48,n48⟩:=ar46.stV (k:=1) (n:=1) (v:=.slice (some ⟨q,0,none⟩) (es.length+1) (es.length+1)) (zkQ _ _ _) rfl rfl (row':=[wv,.slice (some ⟨q,0,none⟩) (es.length+1) (es.length+1)]) rfl
       have e48':s46.stV (base.next+2) (0+1) 1 (.slice (some ⟨q,0,none⟩) (es.length+1) (es.length+1))=some s48:=e48
       have he46:Ext base s46:=⟨zlt he4.next f3.next,f3.lim.trans he4.lim,fun m hm=>(f3.keep m (by omega) (by simp)).trans (he4.keep m hm)⟩
       have hw1:=zaX (i:=j) (by omega)
       have ow48:=f2.modLt m48 (by intro m hm;have e:m=base.next+2:=(by simpa using hm);omega)
       have ow48':Owns (base.next+3) s48 [⟨wv,rowsF zdJ ws,1,N⟩,⟨.slice (some ⟨q,0,none⟩) (es.length+1) (es.length+1),rowsF zaZ (es++[(e.1.nm,y)]),2,(es++[(e.1.nm,y)]).length⟩]:=by
        rw [zbQ,zcX,List.length_append]
        exact ow48
       have next:=ih (j+1) (es++[(e.1.nm,y)]) _ s48 (by omega) (by simp;omega) (zaA he46 m48 (by omega)) (a246.mod m48 (by simp)) (a346.mod m48 (by simp)) a48 ow48'
       have step:∀ z,zan 20 [ptr b 0,ptr base.next 0,ptr (base.next+1) 0,ptr (base.next+2) 0,vv,.int .i64 l.ents.length,.int .i64 ((j+1:Nat):Int)] s48=some z→zan 20 [ptr b 0,ptr base.next 0,ptr (base.next+1) 0,ptr (base.next+2) 0,vv,.int .i64 l.ents.length,.int .i64 j] s=some z:=fun z hz=>by
        refine zbv _ _ _ _ _ _ _ s ?_
        simp only [zbt,zdt h,zct,b1,b2',e4',hnl,zad,l7,l8,m7,zob,zac,Option.map_some,zfn,ht,zdf hy,zcf,l31,hN,zdf hyN,l43,List.append_nil,f1',e48',hw1]
        exact hz
       cases hz:zgb l.nms N (l.ents.drop (j+1)) with
       | error z=>
         rw [hz] at next
         obtain ⟨s',d1,d2⟩:=next
         exact ⟨s',step _ d1,d2⟩
       | ok es'=>
         rw [hz] at next
         obtain ⟨s',ev',d1,d2,d3,d4,d5,d6⟩:=next
         refine ⟨s',ev',step _ d1,d2,d3,d4,d5,?_⟩
         rw [List.append_assoc] at d6
         exact d6
def zcT (w e:Value):Value:=.agg #[w,e]
def LayR (base:SS) (res:Option (Value×SS)):Except (Nat×Nat) (List Wd×List (List UInt8×Int))→Prop
 | .error e=>∃ s',res=some (.tuple #[zcT (.slice none 0 0) (.slice none 0 0),zbA e],s')∧Ext base s'∧e≠(0,0)
 | .ok (ws,es)=>∃ s' wv ev,res=some (.tuple #[zcT wv ev,zbA (0,0)],s')∧Ext base s'∧Own base.next s' wv (rowsF zdJ ws) 1 ws.length∧Own base.next s' ev (rowsF zaZ es) 2 es.length
theorem zm7 {M:Nat} {nms:Nms} {N:Nat}:∀ (xs:List (Nat×PLine)) (ws:List Wd) (e:Nat×Nat),(∀ x∈xs,LineOk M x.2∧x.2.prs≠[]∧0<x.2.ln)→zc6 nms N xs ws=.error e→0<e.1
 | [],ws,e,_,h=>by cases h
 | x::r,ws,e,hx,h=>by
   unfold zc6 at h
   have:=(hx x (by simp)).2.2
   split at h
   ·cases h;exact this
   ·split at h
    ·cases h;exact this
    ·exact zm7 r _ e (fun y hy=>hx y (by simp [hy])) h
theorem zoo {nms:Nms} {N:Nat}:∀ (xs:List (Val×Nat×Nat)) (e:Nat×Nat),(∀ x∈xs,x.1.nm≠[]∧0<x.2.1∧0<x.2.2)→zgb nms N xs=.error e→0<e.1
 | [],e,_,h=>by cases h
 | x::r,e,hx,h=>by
   unfold zgb at h
   have:=(hx x (by simp)).2.1
   split at h
   ·cases h;exact this
   ·split at h
    ·cases h;exact this
    ·split at h
     ·rename_i hz
      cases h
      exact zoo r _ (fun y hy=>hx y (by simp [hy])) hz
     ·cases h
theorem zrH:zfz zaO=0:=by decide+kernel
theorem zop (n:Nat):rowsF zdJ (List.replicate n zaO)=List.replicate n (.int .u64 0):=by
 induction n with
 | zero=>rfl
 | succ n ih=>rw [List.replicate_succ,zbE,ih,List.replicate_succ];unfold zdJ;rw [zrH];rfl
theorem zjD {nms:Nms} {N:Nat}:∀ (xs:List (Nat×PLine)) (ws ws':List Wd),zc6 nms N xs ws=.ok ws'→ws'.length=ws.length
 | [],ws,ws',h=>by cases h;rfl
 | x::r,ws,ws',h=>by
   unfold zc6 at h
   split at h
   ·cases h
   ·split at h
    ·cases h
    ·rw [zjD r _ ws' h,List.length_set]
theorem lay_ok [Sym] {st0 base:SS} {B b i M:Nat} {vw ve vv:Value} {l:Lay} {its:List WItem} (hB:Bld st0 base B b i vw ve vv l its) (hL:LayOk M l) (hM:M≤100000) (hn:l.ents.length≤100000) (hg:Gd base):
  LayR base (cc 44 [ptr b 0] base) (zih l):=by
 have hll:base.lim≤base.next:=by rw [hB.ext.lim];have:=hB.ll;have:=hB.ext.next;omega
 have hil:its.length=l.wds.length:=by rw [← hB.wds,List.length_map]
 have hil2:its.length≤2048:=by
  have h1:=hL.wlen
  have h2:=hL.pl
  omega
 have x1:Ext base (base.new (.cells NN 0)):=(Ext.refl _).new _
 have x2:Ext (base.new (.cells NN 0)) ((base.new (.cells NN 0)).new (.cells Z2 0)):=(Ext.refl _).new _
 have x3:Ext ((base.new (.cells NN 0)).new (.cells Z2 0)) (((base.new (.cells NN 0)).new (.cells Z2 0)).new (.cells NN 0)):=(Ext.refl _).new _
 have a2:At (((base.new (.cells NN 0)).new (.cells Z2 0)).new (.cells NN 0)) base.next NN:=((At.new hll NN).ext x2).ext x3
 have a3:At (((base.new (.cells NN 0)).new (.cells Z2 0)).new (.cells NN 0)) (base.next+1) Z2:=(At.new (st:=base.new (.cells NN 0)) (x1.ll hll) Z2).ext x3
 have ar:At (((base.new (.cells NN 0)).new (.cells Z2 0)).new (.cells NN 0)) (base.next+2) NN:=At.new (st:=(base.new (.cells NN 0)).new (.cells Z2 0)) ((x1.trans x2).ll hll) NN
 have he3:Ext base (((base.new (.cells NN 0)).new (.cells Z2 0)).new (.cells NN 0)):=x1.trans (x2.trans x3)
 have hn1:(base.new (.cells NN 0)).next=base.next+1:=rfl
 have hn2:((base.new (.cells NN 0)).new (.cells Z2 0)).next=base.next+2:=rfl
 have hn3:(((base.new (.cells NN 0)).new (.cells Z2 0)).new (.cells NN 0)).next=base.next+3:=rfl
 generalize hs3:((base.new (.cells NN 0)).new (.cells Z2 0)).new (.cells NN 0)=s3 at*
 have hsb:=hB.then he3
 have hnl:zam (ptr b 0)=some (ptr b 0):=rfl
 have l6:s3.ld b (0+2)=some vw:=hsb.row.ld
 have hlen:(lenV vw).bind (asI .i64)=some (its.length:Int):=by rw [hB.ow.len];rfl
 have rest:∀ (s:SS) (wv:Value),Ext base s→At s base.next NN→At s (base.next+1) Z2→At s (base.next+2) [wv,.slice none 0 0]→Own (base.next+3) s wv (rowsF zdJ (List.replicate (sizeT l) zaO)) 1 (sizeT l)→
   LayR base ((zan 6 [ptr b 0,ptr base.next 0,ptr (base.next+1) 0,ptr (base.next+2) 0,vw,.int .i64 its.length,.int .i64 0] s).bind fun r21=>cond (Nat.beq r21.1 0) (
  (r21.2.1[0]?).bind fun v22=>
  (r21.2.1[1]?).bind fun v23=>
  (r21.2.1[2]?).bind fun v24=>
  (r21.2.1[3]?).bind fun v25=>
  (zam v22).bind fun v26=>
  (addr? v26).bind fun p27=>
  (r21.2.2.ld p27.1 (p27.2+4)).bind fun v28=>
  ((lenV v28).bind (asI .i64)).bind fun n29=>
  (zan 20 [v22,v23,v24,v25,v28,.int .i64 n29,.int .i64 0] r21.2.2).bind fun r30=>
  cond (Nat.beq r30.1 0) (
   (r30.2.1[0]?).bind fun v31=>
   (r30.2.1[1]?).bind fun v32=>
   (r30.2.1[2]?).bind fun v33=>
   (addr? v33).bind fun p34=>
   (r30.2.2.ldN p34.1 p34.2 2).bind fun v35=>
   (addr? v31).bind fun p36=>
   (r30.2.2.stV p36.1 p36.2 2 v35).bind fun st37=>
   (addr? v32).bind fun p38=>
   (st37.st p38.1 p38.2 [.int .i64 0,.int .i64 0]).bind fun st39=>
   (addr? v31).bind fun p40=>
   (st39.rdN p40.1 p40.2 2).bind fun v41=>
   (addr? v32).bind fun p42=>
   (st39.rdN p42.1 p42.2 2).bind fun v43=>
   some (.tuple #[v41,v43],st39)) (
   (r30.2.1[0]?).bind fun v44=>
   (r30.2.1[1]?).bind fun v45=>
   (addr? v44).bind fun p46=>
   (r30.2.2.rdN p46.1 p46.2 2).bind fun v47=>
   (addr? v45).bind fun p48=>
   (r30.2.2.rdN p48.1 p48.2 2).bind fun v49=>
   some (.tuple #[v47,v49],r30.2.2))) (
  (r21.2.1[0]?).bind fun v50=>
  (r21.2.1[1]?).bind fun v51=>
  (addr? v50).bind fun p52=>
  (r21.2.2.rdN p52.1 p52.2 2).bind fun v53=>
  (addr? v51).bind fun p54=>
  (r21.2.2.rdN p54.1 p54.2 2).bind fun v55=>
  some (.tuple #[v53,v55],r21.2.2))) (zih l):=by
  intro s wv he b2 b3 br bo
  have hN:(lenV wv).bind (asI .i64)=some ((sizeT l:Nat):Int):=by rw [bo.len];rfl
  have hw:=zvu hB hL hM hg hN its.length 0 (List.replicate (sizeT l) zaO) s rfl (by simp) he b2 b3 br bo
  rw [List.drop_zero] at hw
  have b0:Nat.beq 0 0=true:=rfl
  have b1:Nat.beq 1 0=false:=rfl
  unfold zih
  cases hws:zc6 l.nms (sizeT l) l.wds (List.replicate (sizeT l) zaO) with
  | error e=>
    rw [hws] at hw
    obtain ⟨s',c1,c2,c3,c4⟩:=hw
    have c1':zan 6 [ptr b 0,ptr base.next 0,ptr (base.next+1) 0,ptr (base.next+2) 0,vw,.int .i64 its.length,.int .i64 0] s=_:=c1
    have r1:=c3.rdN (n:=2) rfl
    have r2:=c4.rdN (n:=2) rfl
    refine ⟨s',?_,c2,fun hh=>by have:=zm7 _ _ _ hL.prs hws;rw [hh] at this;omega⟩
    rw [c1',zob]
    simp only [b1,zcf,zgs,zgz,zob,zad,r1,r2]
    rfl
  | ok ws=>
    rw [hws] at hw
    obtain ⟨s',c1,c2,c3,c4,c5,c6,c7⟩:=hw
    have c1':zan 6 [ptr b 0,ptr base.next 0,ptr (base.next+1) 0,ptr (base.next+2) 0,vw,.int .i64 its.length,.int .i64 0] s=_:=c1
    have hsb':=hB.then c2
    have l28:s'.ld b (0+4)=some vv:=hsb'.row.ld
    have hlen2:(lenV vv).bind (asI .i64)=some (l.ents.length:Int):=by rw [hB.ov.len];rfl
    have ow:Owns (base.next+3) s' [⟨wv,rowsF zdJ ws,1,sizeT l⟩,⟨.slice none 0 0,rowsF zaZ [],2,([]:List (List UInt8×Int)).length⟩]:=by
     refine ⟨fun k o ho=>?_,fun k m a b' j ha hb h1 h2=>?_⟩
     ·match k,ho with
      | 0,ho=>cases ho;exact c6
      | 1,ho=>cases ho;exact Own.nil _ _ _
      | k+2,ho=>simp at ho
     ·match k,m,ha,hb with
      | 0,0,_,_=>rfl
      | 1,1,_,_=>rfl
      | 0,1,_,hb=>cases hb;cases h2
      | 1,0,ha,_=>cases ha;cases h1
      | k+2,_,ha,_=>simp at ha
      | _,k+2,_,hb=>simp at hb
    have hen:=zus hB hL hn ws hN l.ents.length 0 [] _ s' rfl (by simp) c2 c3 c4 c5 ow
    rw [List.drop_zero] at hen
    rw [c1',zob]
    simp only [b0,zct,zgs,zgz,zob,hnl,zad,l28,hlen2]
    cases hes:zgb l.nms (sizeT l) l.ents with
    | error e=>
      rw [hes] at hen
      obtain ⟨s2,d1,d2,d3,d4⟩:=hen
      have d1':zan 20 [ptr b 0,ptr base.next 0,ptr (base.next+1) 0,ptr (base.next+2) 0,vv,.int .i64 l.ents.length,.int .i64 0] s'=_:=d1
      have r1:=d3.rdN (n:=2) rfl
      have r2:=d4.rdN (n:=2) rfl
      refine ⟨s2,?_,d2,fun hh=>by have:=zoo _ _ hL.ent hes;rw [hh] at this;omega⟩
      rw [d1',zob]
      simp only [b1,zcf,zgs,zgz,zob,zad,r1,r2]
      rfl
    | ok es=>
      rw [hes] at hen
      obtain ⟨s2,ev,d1,d2,d3,d4,d5,d6⟩:=hen
      have d1':zan 20 [ptr b 0,ptr base.next 0,ptr (base.next+1) 0,ptr (base.next+2) 0,vv,.int .i64 l.ents.length,.int .i64 0] s'=_:=d1
      have l35:=d5.ldN (n:=2) rfl
      have o1:=d6.own 0 _ rfl
      have o2:=d6.own 1 _ rfl
      simp only [List.nil_append] at o2
      have w1:one wv=true:=(Own.cell o1).2
      have w2:one ev=true:=(Own.cell o2).2
      obtain ⟨s37,e37,a37,m37,n37⟩:=d3.stV (k:=0) (n:=2) (v:=.agg [wv,ev].toArray) (zaB _) rfl (by simp [w1,w2]) (row':=[wv,ev]) rfl
      obtain ⟨s39,e39,a39,m39,n39⟩:=(d4.mod m37 (by simp)).sto (k:=0) (vs:=Z2) (row':=Z2) rfl rfl
      have r1:=(a37.mod m39 (by simp)).rdN (n:=2) rfl
      have r2:=a39.rdN (n:=2) rfl
      have hlw:=zjD _ _ _ hws
      rw [List.length_replicate] at hlw
      have q1:∀ m,m∈[base.next]→m<base.next+3:=(by intro m hm;have e:m=base.next:=(by simpa using hm);omega)
      have q2:∀ m,m∈[base.next+1]→m<base.next+3:=(by intro m hm;have e:m=base.next+1:=(by simpa using hm);omega)
      refine ⟨s39,wv,ev,?_,zaA (zaA d2 m37 (zlr _)) m39 (by omega),?_,((o2.modLt m37 q1).modLt m39 q2).low (by omega)⟩
      ·rw [d1',zob]
       simp only [b0,zct,zgs,zgz,zob,zad,l35,e37,e39,r1,r2]
       rfl
      ·rw [hlw]
       exact ((o1.modLt m37 q1).modLt m39 q2).low (by omega)
 by_cases hw0:0<its.length
 ·have hp:(0:Int)<(its.length:Int):=by omega
  obtain ⟨x,hx⟩:∃ x,its[its.length-1]?=some x:=⟨_,zge (by omega)⟩
  have hwx:l.wds.getLast?=some (x.1,x.2.1):=by
   rw [List.getLast?_eq_getElem?,← hB.wds,List.length_map,List.getElem?_map,hx];rfl
  have hsz:sizeT l=x.1+1:=by unfold sizeT;rw [hwx]
  have hszb:=(zl8 hL).2
  have n11:IntKind.wrap .i64 ((its.length:Int)-1)=((its.length-1:Nat):Int):=by rw [wrap64 (by omega) (by omega)];omega
  obtain ⟨p12,b1,_,b3⟩:=hsb.ow.rd.load (j:=((its.length-1:Nat):Int)) (by omega) (by omega) (za8 (f:=wdRow) (z:=6) (fun _=>rfl) its (its.length-1) x hx) rfl
  have l13:s3.ld p12.1 p12.2=some (.int .i64 x.1):=b3 0 (by omega)
  have n14:IntKind.wrap .i64 ((x.1:Int)+1)=((sizeT l:Nat):Int):=by rw [wrap64 (by omega) (by omega),hsz];omega
  have hmk:zeX ((sizeT l:Nat):Int) ((sizeT l:Nat):Int) 8=some ():=zlQ (by omega) (by omega) (by omega)
  have x15:Ext s3 (s3.new (.cells (List.replicate (sizeT l) (.int .u64 0)) 1)):=(Ext.refl _).new _
  obtain ⟨s16,e16,a16,m16,n16⟩:=(ar.ext x15).sto (k:=0) (vs:=[.slice (some ⟨s3.next,0,none⟩) (sizeT l) (sizeT l)]) (row':=[.slice (some ⟨s3.next,0,none⟩) (sizeT l) (sizeT l),.slice none 0 0]) rfl rfl
  have ow16:Own (base.next+3) s16 (.slice (some ⟨s3.next,0,none⟩) (sizeT l) (sizeT l)) (rowsF zdJ (List.replicate (sizeT l) zaO)) 1 (sizeT l):=by
   refine ⟨by rw [zop];simp,.inr ⟨s3.next,rfl,by omega,?_,by omega,by rw [n16];simp⟩⟩
   rw [zop]
   exact m16.get (by simp) (by simp;omega) (SS.new_get)
  have hr:=rest s16 _ (zaA (he3.trans x15) m16 (by omega)) ((a2.ext x15).mod m16 (by simp)) ((a3.ext x15).mod m16 (by simp)) a16 ow16
  have l19:s16.ld b (0+2)=some vw:=(hB.then (zaA (he3.trans x15) m16 (by omega))).row.ld
  have hst:∀ z,z=zcK cc zan (ptr b 0) base→LayR base z (zih l):=fun z hz=>by
   rw [hz]
   simp only [zcK,hs3,hn1,hn2,hnl,zob,zad,l6,hlen,zdt hp,zct,n11,b1,l13,zaa,n14,hmk,zi9,Int.toNat_natCast,e16,l19]
   exact hr
  have hfin:=hst _ rfl
  cases hro:zih l with
  | error e=>
    rw [hro] at hfin
    obtain ⟨s',c,d⟩:=hfin
    exact ⟨s',zcO _ base c,d⟩
  | ok y=>
    obtain ⟨ws,es⟩:=y
    rw [hro] at hfin
    obtain ⟨s',wv,ev,c,d⟩:=hfin
    exact ⟨s',wv,ev,zcO _ base c,d⟩
 ·have hp:¬ (0:Int)<(its.length:Int):=by omega
  have hwn:l.wds=[]:=List.length_eq_zero_iff.1 (by omega)
  have hsz:sizeT l=0:=by unfold sizeT;rw [hwn];rfl
  have hr:=rest s3 (.slice none 0 0) he3 a2 a3 ar (by rw [hsz];exact Own.nil _ _ _)
  have hst:∀ z,z=zcK cc zan (ptr b 0) base→LayR base z (zih l):=fun z hz=>by
   rw [hz]
   simp only [zcK,hs3,hn1,hn2,hnl,zob,zad,l6,hlen,zdf hp,zcf]
   exact hr
  have hfin:=hst _ rfl
  cases hro:zih l with
  | error e=>
    rw [hro] at hfin
    obtain ⟨s',c,d⟩:=hfin
    exact ⟨s',zcO _ base c,d⟩
  | ok y=>
    obtain ⟨ws,es⟩:=y
    rw [hro] at hfin
    obtain ⟨s',wv,ev,c,d⟩:=hfin
    exact ⟨s',wv,ev,zcO _ base c,d⟩
end Go.Proofs.YtifploedaacedaaGreatDoorE
namespace Go.Proofs.YtifploedaacedaaGreatDoorE
open Go Go.E Go.Proofs
abbrev En:=List UInt8×Int
def zgo (N:Nat) (es:List En) (i:Nat):Bool:=match es[i]? with
 | none=>true
 | some e=>zkO e.1&&(!decide (e.2<0)&&(!decide ((N:Int)≤e.2)&&!decide (e.1∈(es.take i).map (·.1))))
theorem zqf {N i:Nat} {es:List En} {e:En} (h:es[i]?=some e):zgo N es i=(zkO e.1&&(!decide (e.2<0)&&(!decide ((N:Int)≤e.2)&&!decide (e.1∈(es.take i).map (·.1))))):=by unfold zgo;rw [h]
def zij (N:Nat) (es:List En):Bool:=Nat.ble N 2048&&(Nat.ble es.length 255&&(List.range es.length).all (zgo N es))
theorem zgp {st st':SS} {q k:Nat} (he:Ext st st') (hq:q<st.next):st'.ld q k=st.ld q k:=by unfold SS.ld;rw [he.keep q hq]
theorem zhX (e:En):(zaZ e).length=2:=rfl
theorem zut [Sym] (x:En) (f:List UInt8) (q:Nat) (st:SS) (hq:st.ld q 0=some (.string (mkS f))) (hlt:q<st.next):∃ n,st.next≤n∧cc 88 [.agg (zaZ x).toArray,ptr q 0] st=some (.bool (decide (x.1=f)),st.adv n):=by
 refine ⟨st.next+1,by omega,ztY _ _ st ?_⟩
 have x1:Ext (st.ro st.next) ((st.ro st.next).new (.cells (zaZ x) 0)):=(Ext.refl _).new _
 have l0:((st.ro st.next).new (.cells (zaZ x) 0)).ld st.next 0=some (.string (mkS x.1)):=by
  have hm:((st.ro st.next).new (.cells (zaZ x) 0)).mem.get st.next=some (.cells (zaZ x) 0):=SS.new_get (st:=st.ro st.next)
  rw [SS.ld_cells hm];rfl
 have l1:((st.ro st.next).new (.cells (zaZ x) 0)).ld q 0=some (.string (mkS f)):=(zgp x1 (show q<(st.ro st.next).next from hlt)).trans hq
 simp only [entEq,zaB,SS.ro_next,l0,zob,zac,zad,l1,zcU]
 rfl
theorem zuu [Sym] (ps:List En) (hsz:ps.length≤1099511627776) (f:List UInt8) (q:Nat) (v:Value) (st0:SS) (hv:Rg st0 v (rowsF zaZ ps) 2 ps.length) (hq:st0.ld q 0=some (.string (mkS f))) (hlt:q<st0.next):
  ∀ (k j:Nat) (st:SS),ps.length=k+j→Ext st0 st→∃ e vs st',zgi 2 [v,.func (.func 88) #[] #[ptr q 0],.int .i64 ps.length,.int .i64 j] st=some (e,vs,st')∧Ext st0 st'∧
   ((e=0∧vs=[]∧f∉(ps.drop j).map (·.1))∨(e=1∧f∈(ps.drop j).map (·.1)∧∃ m:Nat,vs=[.int .i64 m])):=by
 intro k
 induction k with
 | zero=>
   intro j st hk he
   refine ⟨0,[],st,zhn v q _ _ st ?_,he,.inl ⟨rfl,rfl,?_⟩⟩
   ·have:¬ (j:Int)<(ps.length:Int):=by omega
    simp only [zhQ,zdf this,zcf]
   ·rw [List.drop_of_length_le (by omega)];simp
 | succ k ih=>
   intro j st hk he
   obtain ⟨p,hp⟩:∃ p,ps[j]?=some p:=⟨_,zge (by omega)⟩
   have hjl:(j:Int)<(ps.length:Int):=by omega
   obtain ⟨x,b1,b2,_⟩:=(hv.ext he).load (j:=(j:Int)) (by omega) hjl (za8 zhX ps j p hp) rfl
   obtain ⟨n,hn,c1⟩:=zut p f q st ((zgp he hlt).trans hq) (zll hlt he.next)
   have b2':st.ldN x.1 x.2 2=some (.agg (zaZ p).toArray):=b2
   have hd:=drop_cons hp
   have hw:=zaX (i:=j) (by omega)
   by_cases hf:p.1=f
   ·refine ⟨1,[.int .i64 j],st.adv n,zhn v q _ _ st ?_,he.adv (by have:=he.next;omega),.inr ⟨rfl,?_,j,rfl⟩⟩
    ·rw [zdt hf] at c1
     simp only [zhQ,zdt hjl,zct,b1,zob,b2',c1,zah]
    ·rw [hd];simp [hf]
   ·obtain ⟨e,vs,st',d1,d2,d3⟩:=ih (j+1) (st.adv n) (by omega) (he.adv (by have:=he.next;omega))
    rw [zdf hf] at c1
    refine ⟨e,vs,st',zhn v q _ _ st ?_,d2,?_⟩
    ·simp only [zhQ,zdt hjl,zct,b1,zob,b2',c1,zah,zcf,hw]
     exact d1
    ·rw [hd]
     rcases d3 with ⟨e1,e2,e3⟩ | ⟨e1,e2,e3⟩
     ·exact .inl ⟨e1,e2,by simp only [List.map_cons,List.mem_cons,not_or];exact ⟨fun x=>hf x.symm,e3⟩⟩
     ·exact .inr ⟨e1,by simp only [List.map_cons,List.mem_cons];exact .inr e2,e3⟩
theorem zuv [Sym] (ps:List En) (hsz:ps.length≤1099511627776) (f:List UInt8) (q:Nat) (v:Value) (st:SS) (hv:Rg st v (rowsF zaZ ps) 2 ps.length) (hq:st.ld q 0=some (.string (mkS f))) (hlt:q<st.next):
  ∃ n,st.next≤n∧cc 87 [v,.func (.func 88) #[] #[ptr q 0]] st=some (.bool (decide (f∈ps.map (·.1))),st.adv n):=by
 obtain ⟨e,vs,st',d1,d2,d3⟩:=zuu ps hsz f q v ((st.ro st.next).ro (st.ro st.next).next) hv hq hlt ps.length 0 ((st.ro st.next).ro (st.ro st.next).next) (by omega) (.refl _)
 have d1':zgi 2 [v,.func (.func 88) #[] #[ptr q 0],.int .i64 ps.length,.int .i64 0] ((st.ro st.next).ro (st.ro st.next).next)=some (e,vs,st'):=d1
 have hlen:=hv.lenI
 rw [List.drop_zero] at d3
 have hnx:=d2.next
 simp at hnx
 refine ⟨st'.next,hnx,zrj _ _ st ?_⟩
 rcases d3 with ⟨rfl,rfl,e3⟩ | ⟨rfl,e2,m,rfl⟩
 ·have c:cc 104 [v,.func (.func 88) #[] #[ptr q 0]] (st.ro st.next)=some (.int .i64 (-1),(st.ro st.next).adv st'.next):=by
   refine zog _ _ _ ?_
   have hb0:Nat.beq 0 0=true:=rfl
   simp only [zpo,hlen,zob,d1',hb0,zct]
  have h0:¬ (0:Int)≤ -1:=by omega
  rw [zdf e3]
  simp only [znD,c,zob,zaa,zdf h0]
  rfl
 ·have c:cc 104 [v,.func (.func 88) #[] #[ptr q 0]] (st.ro st.next)=some (.int .i64 m,(st.ro st.next).adv st'.next):=by
   refine zog _ _ _ ?_
   have hb0:Nat.beq 1 0=false:=rfl
   simp only [zpo,hlen,zob,d1',hb0,zcf,zgz,zaa]
  have h0:(0:Int)≤(m:Int):=by omega
  rw [zdt e2]
  simp only [znD,c,zob,zaa,zdt h0]
  rfl
def zkR (base:SS) (N:Nat) (es:List En) (i:Nat) (res:Option (Nat×List Value×SS)):Prop:=
 ∃ e vs s',res=some (e,vs,s')∧Ext base s'∧((e=0∧vs=[]∧∀ j,i≤j→zgo N es j=true)∨(e=1∧vs=[.bool false]∧∃ j,i≤j∧j<es.length∧zgo N es j=false))
theorem zkR.up {base:SS} {N i:Nat} {es:List En} {res res':Option (Nat×List Value×SS)} (h:zkR base N es (i+1) res) (hi:zgo N es i=true) (hr:∀ r,res=some r→res'=some r):zkR base N es i res':=by
 obtain ⟨e,vs,s',h1,h2,h3⟩:=h
 refine ⟨e,vs,s',hr _ h1,h2,h3.imp (fun ⟨a,b,c⟩=>⟨a,b,fun j hj=>?_⟩) fun ⟨a,b,j,c,d⟩=>⟨a,b,j,by omega,d⟩⟩
 by_cases e:j=i
 ·rw [e];exact hi
 ·exact c j (by omega)
theorem zuw {base:SS} {N i:Nat} {es:List En} {s:SS} {res:Option (Nat×List Value×SS)} (hi:es.length≤i) (he:Ext base s) (h:res=some (0,[],s)):zkR base N es i res:=
 ⟨0,[],s,h,he,.inl ⟨rfl,rfl,fun j hj=>by unfold zgo;rw [List.getElem?_eq_none (by omega)]⟩⟩
theorem zjE {base:SS} {N i:Nat} {es:List En} {s:SS} {res:Option (Nat×List Value×SS)} (hl:i<es.length) (hi:zgo N es i=false) (he:Ext base s) (h:res=some (1,[.bool false],s)):zkR base N es i res:=
 ⟨1,_,s,h,he,.inr ⟨rfl,rfl,i,zlr _,hl,hi⟩⟩
section
variable {r : Nat} {wv ev : Value} {N : Nat} {es : List En} {base : SS}
theorem zrI [Sym] (hN:(lenV wv).bind (asI .i64)=some (N:Int)) (hsz:es.length≤255) (hll:base.lim≤base.next) (hr:base.ld r 0=some wv) (hr1:base.ld r (0+1)=some ev) (hlt:r<base.next) (hv:Rg base ev (rowsF zaZ es) 2 es.length):∀ (k i:Nat) (s:SS),es.length=k+i→Ext base s→
  zkR base N es i (zeO 4 [ptr r 0,ev,.int .i64 es.length,.int .i64 i] s):=by
 intro k
 induction k with
 | zero=>
   intro i s hk he
   have h:¬ (i:Int)<(es.length:Int):=by omega
   refine zuw (by omega) he (zcF _ _ _ _ s ?_)
   simp only [zdc,zdf h,zcf]
 | succ k ih=>
   intro i s hk he
   have h:(i:Int)<(es.length:Int):=by omega
   obtain ⟨e,hg⟩:∃ e,es[i]?=some e:=⟨_,zge (by omega)⟩
   have hga:=zqf (N:=N) hg
   obtain ⟨p1,b1,b2,_⟩:=(hv.ext he).load (j:=(i:Int)) (by omega) h (za8 zhX es i e hg) rfl
   have b2':s.ldN p1.1 p1.2 2=some (.agg (zaZ e).toArray):=b2
   obtain ⟨s4,e4,a4,x4,n4⟩:=za1 (n:=2) (st:=s) (he.ll hll) (r:=zaZ ([],0)) (row:=zaZ e) (v:=.agg (zaZ e).toArray) (zaB _) rfl rfl rfl
   have e4':(s.new (.cells [.string ⟨#[]⟩,.int .i64 0] 0)).stV s.next 0 2 (.agg (zaZ e).toArray)=some s4:=e4
   have he4:=he.trans x4
   have l5:s4.ld s.next 0=some (.string (mkS e.1)):=a4.ld
   obtain ⟨n6,hn6,c6⟩:=zrp e.1 s4
   have x6:Ext s4 (s4.adv n6):=Ext.advR s4 hn6
   have he6:=he4.trans x6
   have a6:=a4.ext x6
   cases hnm:zkO e.1 with
   | false=>
     rw [hnm] at c6
     refine zjE (by omega) (by rw [hga,hnm];rfl) he6 (zcF _ _ _ _ s ?_)
     simp only [zdc,zdt h,zct,b1,b2',e4',zob,l5,zac,c6,zah,znf]
   | true=>
   rw [hnm] at c6 hga
   have l8:(s4.adv n6).ld s.next 1=some (.int .i64 e.2):=a6.ld
   by_cases q1:e.2<0
   ·refine zjE (by omega) (by rw [hga,zdt q1];rfl) he6 (zcF _ _ _ _ s ?_)
    simp only [zdc,zdt h,zct,b1,b2',e4',zob,l5,zac,c6,zah,znt,zcf,l8,zaa,zdt q1]
   have l11:(s4.adv n6).ld r 0=some wv:=(zgp he6 hlt).trans hr
   by_cases q2:(N:Int)≤e.2
   ·refine zjE (by omega) (by rw [hga,zdt q2];simp) he6 (zcF _ _ _ _ s ?_)
    simp only [zdc,zdt h,zct,b1,b2',e4',zob,l5,zac,c6,zah,znt,zcf,l8,zaa,zdf q1,zad,l11,hN,zdt q2]
   have l14:(s4.adv n6).ld r (0+1)=some ev:=(zgp he6 hlt).trans hr1
   obtain ⟨v15,c15,g15⟩:=(hv.ext he6).resl (m:=i) (by omega)
   rw [zq4 zhX] at g15
   have hli:(es.take i).length=i:=by rw [List.length_take];omega
   have g15':Rg (s4.adv n6) v15 (rowsF zaZ (es.take i)) 2 (es.take i).length:=by rw [hli];exact g15
   obtain ⟨n16,hn16,c16⟩:=zuv (es.take i) (by omega) e.1 s.next v15 (s4.adv n6) g15' a6.ld a6.lt
   have x16:=Ext.advR (s4.adv n6) hn16
   have he16:=he6.trans x16
   have hw1:=zaX (i:=i) (by omega)
   rw [zdf q1,zdf q2] at hga
   by_cases q3:e.1∈(es.take i).map (·.1)
   ·rw [zdt q3] at c16
    refine zjE (by omega) (by rw [hga,zdt q3];rfl) he16 (zcF _ _ _ _ s ?_)
    simp only [zdc,zdt h,zct,b1,b2',e4',zob,l5,zac,c6,zah,znt,zcf,l8,zaa,zdf q1,zad,l11,hN,zdf q2,l14,c15,c16]
   ·rw [zdf q3] at c16
    refine (ih (i+1) ((s4.adv n6).adv n16) (by omega) he16).up (by rw [hga,zdf q3];rfl) fun rr hrr=>zcF _ _ _ _ s ?_
    simp only [zdc,zdt h,zct,b1,b2',e4',zob,l5,zac,c6,zah,znt,zcf,l8,zaa,zdf q1,zad,l11,hN,zdf q2,l14,c15,c16,hw1]
    exact hrr
end
theorem ztb {n:Nat} {p:Nat→Bool} (h:∀ j,0≤j→p j=true):(List.range n).all p=true:=by rw [List.all_eq_true];exact fun j _=>h j (Nat.zero_le _)
theorem zoN {n j:Nat} {p:Nat→Bool} (hj:j<n) (h:p j=false):(List.range n).all p=false:=by
 rw [List.all_eq_false];exact ⟨j,List.mem_range.2 hj,by rw [h];simp⟩
theorem zrJ [Sym] {N:Nat} {es:List En} {wv ev:Value} {cw:List Value} {z:Nat} {st:SS} (o1:Rg st wv cw z N) (o2:Rg st ev (rowsF zaZ es) 2 es.length):∃ n,st.next≤n∧cc 61 [zcT wv ev] st=some (.bool (zij N es),st.adv n):=by
 have hc:(zcT wv ev).cells.toList=[wv,ev]:=by show (Value.agg [wv,ev].toArray).cells.toList=_;exact zaB _
 have x1:Ext (st.ro st.next) ((st.ro st.next).new (.cells [wv,ev] 0)):=(Ext.refl _).new _
 have hn1:((st.ro st.next).new (.cells [wv,ev] 0)).next=st.next+1:=rfl
 have hl1:((st.ro st.next).new (.cells [wv,ev] 0)).lim=st.next:=rfl
 have hm:((st.ro st.next).new (.cells [wv,ev] 0)).mem.get st.next=some (.cells [wv,ev] 0):=SS.new_get (st:=st.ro st.next)
 have l0:((st.ro st.next).new (.cells [wv,ev] 0)).ld st.next 0=some wv:=by rw [SS.ld_cells hm];rfl
 have l1:((st.ro st.next).new (.cells [wv,ev] 0)).ld st.next 1=some ev:=by rw [SS.ld_cells hm];rfl
 have q1:=o1.lenI
 have q2:=o2.lenI
 have o2':Rg ((st.ro st.next).new (.cells [wv,ev] 0)) ev (rowsF zaZ es) 2 es.length:=Rg.ext (st:=st.ro st.next) o2 x1
 by_cases z1:(2048:Int)<(N:Int)
 ·have hb:Nat.ble N 2048=false:=by rw [Bool.eq_false_iff];intro h;rw [Nat.ble_eq] at h;omega
  refine ⟨st.next+1,by omega,zh6 _ st ?_⟩
  simp only [zhm,hc,SS.ro_next,l0,zob,q1,zdt z1,zct,zij,hb,Bool.false_and,hn1]
 have hb:Nat.ble N 2048=true:=by rw [Nat.ble_eq];omega
 by_cases z2:(255:Int)<(es.length:Int)
 ·have hb2:Nat.ble es.length 255=false:=by rw [Bool.eq_false_iff];intro h;rw [Nat.ble_eq] at h;omega
  refine ⟨st.next+1,by omega,zh6 _ st ?_⟩
  simp only [zhm,hc,SS.ro_next,l0,zob,q1,zdf z1,zcf,l1,q2,zdt z2,zct,zij,hb,hb2,Bool.false_and,Bool.true_and,hn1]
 have hb2:Nat.ble es.length 255=true:=by rw [Nat.ble_eq];omega
 obtain ⟨e,vs,s',h1,h2,h3⟩:=zrI q1 (show es.length≤255 by omega) (by omega) l0 l1 (by omega) o2' es.length 0 _ rfl (Ext.refl _)
 have h1':zeO 4 [ptr st.next 0,ev,.int .i64 es.length,.int .i64 0] ((st.ro st.next).new (.cells [wv,ev] 0))=some (e,vs,s'):=h1
 have hnx:=h2.next
 refine ⟨s'.next,by omega,zh6 _ st ?_⟩
 rcases h3 with ⟨rfl,rfl,h3⟩ | ⟨rfl,rfl,j,_,hj,h3⟩
 ·have b0:Nat.beq 0 0=true:=rfl
  simp only [zhm,hc,SS.ro_next,l0,zob,q1,zdf z1,zcf,l1,q2,zdf z2]
  rw [h1',zob]
  simp only [b0,zct,zij,hb,hb2,ztb h3,Bool.and_self]
 ·have b0:Nat.beq 1 0=false:=rfl
  simp only [zhm,hc,SS.ro_next,l0,zob,q1,zdf z1,zcf,l1,q2,zdf z2]
  rw [h1',zob]
  simp only [b0,zcf,zgz,zob,zah,zij,hb,hb2,zoN hj h3,Bool.and_false]
def zgV (es:List En) (n:List UInt8):Option Int:=match es with
 | []=>none
 | e::r=>if e.1=n then some e.2 else zgV r n
theorem ztc [Sym] {v:Value} (es:List En) (hsz:es.length≤1099511627776) (n:List UInt8) (base:SS) (hll:base.lim≤base.next) (hv:Rg base v (rowsF zaZ es) 2 es.length):∀ (k i:Nat) (s:SS),es.length=k+i→Ext base s→
  ∃ s',Ext base s'∧zdX 2 [.string (mkS n),v,.int .i64 es.length,.int .i64 i] s=match zgV (es.drop i) n with
   | none=>some (0,[],s')
   | some x=>some (1,[.int .i64 x,.bool true],s'):=by
 intro k
 induction k with
 | zero=>
   intro i s hk he
   have h:¬ (i:Int)<(es.length:Int):=by omega
   rw [List.drop_of_length_le (by omega)]
   refine ⟨s,he,zes _ _ _ _ s ?_⟩
   simp only [zeN,zdf h,zcf]
 | succ k ih=>
   intro i s hk he
   have h:(i:Int)<(es.length:Int):=by omega
   obtain ⟨e,hg⟩:∃ e,es[i]?=some e:=⟨_,zge (by omega)⟩
   obtain ⟨p1,b1,b2,_⟩:=(hv.ext he).load (j:=(i:Int)) (by omega) h (za8 zhX es i e hg) rfl
   have b2':s.ldN p1.1 p1.2 2=some (.agg (zaZ e).toArray):=b2
   obtain ⟨s4,e4,a4,x4,n4⟩:=za1 (n:=2) (st:=s) (he.ll hll) (r:=zaZ ([],0)) (row:=zaZ e) (v:=.agg (zaZ e).toArray) (zaB _) rfl rfl rfl
   have e4':(s.new (.cells [.string ⟨#[]⟩,.int .i64 0] 0)).stV s.next 0 2 (.agg (zaZ e).toArray)=some s4:=e4
   have he4:=he.trans x4
   have l5:s4.ld s.next 0=some (.string (mkS e.1)):=a4.ld
   have l6:s4.ld s.next 1=some (.int .i64 e.2):=a4.ld
   have hw1:=zaX (i:=i) (by omega)
   rw [drop_cons hg]
   unfold zgV
   by_cases hf:e.1=n
   ·rw [if_pos hf]
    refine ⟨s4,he4,zes _ _ _ _ s ?_⟩
    simp only [zeN,zdt h,zct,b1,b2',e4',zob,l5,zac,zcU,zdt hf,l6,zaa]
   ·rw [if_neg hf]
    obtain ⟨s',f1,f2⟩:=ih (i+1) s4 (by omega) he4
    refine ⟨s',f1,?_⟩
    cases hq:zgV (es.drop (i+1)) n with
    | none=>
      rw [hq] at f2
      refine zes _ _ _ _ s ?_
      simp only [zeN,zdt h,zct,b1,b2',e4',zob,l5,zac,zcU,zdf hf,zcf,hw1]
      exact f2
    | some x=>
      rw [hq] at f2
      refine zes _ _ _ _ s ?_
      simp only [zeN,zdt h,zct,b1,b2',e4',zob,l5,zac,zcU,zdf hf,zcf,hw1]
      exact f2
theorem find_ok [Sym] {es:List En} (hsz:es.length≤1099511627776) (n:List UInt8) {wv ev:Value} {st:SS} (o2:Rg st ev (rowsF zaZ es) 2 es.length):
  ∃ m,st.next≤m∧cc 64 [zcT wv ev,.string (mkS n)] st=some (.tuple #[.int .i64 ((zgV es n).getD 0),.bool (zgV es n).isSome],st.adv m):=by
 have hc:(zcT wv ev).cells.toList=[wv,ev]:=by show (Value.agg [wv,ev].toArray).cells.toList=_;exact zaB _
 have x1:Ext (st.ro st.next) ((st.ro st.next).new (.cells [wv,ev] 0)):=(Ext.refl _).new _
 have hn1:((st.ro st.next).new (.cells [wv,ev] 0)).next=st.next+1:=rfl
 have hl1:((st.ro st.next).new (.cells [wv,ev] 0)).lim=st.next:=rfl
 have hm:((st.ro st.next).new (.cells [wv,ev] 0)).mem.get st.next=some (.cells [wv,ev] 0):=SS.new_get (st:=st.ro st.next)
 have l1:((st.ro st.next).new (.cells [wv,ev] 0)).ld st.next 1=some ev:=by rw [SS.ld_cells hm];rfl
 have o2':Rg ((st.ro st.next).new (.cells [wv,ev] 0)) ev (rowsF zaZ es) 2 es.length:=Rg.ext (st:=st.ro st.next) o2 x1
 have q2:=o2.lenI
 obtain ⟨s',h1,h2⟩:=ztc es hsz n _ (by omega) o2' es.length 0 _ rfl (Ext.refl _)
 rw [List.drop_zero] at h2
 have hnx:=h1.next
 refine ⟨s'.next,by omega,zp2 _ _ st ?_⟩
 cases hq:zgV es n with
 | none=>
   rw [hq] at h2
   have h2':zdX 2 [.string (mkS n),ev,.int .i64 es.length,.int .i64 0] ((st.ro st.next).new (.cells [wv,ev] 0))=some (0,[],s'):=h2
   have b0:Nat.beq 0 0=true:=rfl
   simp only [zlT,hc,SS.ro_next,l1,zob,q2]
   rw [h2',zob]
   simp only [b0,zct]
   rfl
 | some x=>
   rw [hq] at h2
   have h2':zdX 2 [.string (mkS n),ev,.int .i64 es.length,.int .i64 0] ((st.ro st.next).new (.cells [wv,ev] 0))=some (1,[.int .i64 x,.bool true],s'):=h2
   have b0:Nat.beq 1 0=false:=rfl
   simp only [zlT,hc,SS.ro_next,l1,zob,q2]
   rw [h2',zob]
   simp only [b0,zcf,zgz,zgs,zob,zaa,zah]
   rfl
end Go.Proofs.YtifploedaacedaaGreatDoorE
namespace Go.Proofs.YtifploedaacedaaGreatDoorE
open Go Go.E Go.Proofs
theorem zpF (a b c d:Int):eqA Tryz.prog Lk0 97 (.agg #[.int .i64 a,.int .i64 b]) (.agg #[.int .i64 c,.int .i64 d])=some (decide (a=c)&&(decide (b=d)&&true)):=by kernel_rfl
theorem At.frm {b i j:Nat} {vw:Value} {st st':SS} {row:List Value} (h:At st j row) (f:Frm b i vw st st') (h1:j≠b) (h2:j≠i) (h3:blkOf vw≠some j):At st' j row:=⟨(f.keep j h.lt h1 h2 h3).trans h.1,zll h.lt f.next,by rw [f.lim];exact h.2.2⟩
theorem ztd {st:SS} {v:Value} {c:List Value} {z n:Nat} (h:Rd st v c z n):one v=true:=by obtain ⟨_,⟨e,_⟩ | ⟨i,c,e,_⟩⟩:=h<;>rw [e]<;>rfl
def AsmL (base st0:SS) (B b i t2 t3:Nat) (res:Option (Nat×List Value×SS)):Except (Nat×Nat) Lay→Prop
 | .error e=>∃ s',res=some (1,[ptr t2 0,ptr t3 0,.int .i64 4],s')∧Ext base s'∧At s' t2 NN∧At s' t3 [.int .i64 e.1,.int .i64 e.2]
 | .ok l=>∃ s' vw ve vv its,res=some (0,[ptr t2 0,ptr t3 0,ptr b 0],s')∧Bld st0 s' B b i vw ve vv l its
theorem zvv [Sym] {base st0:SS} {B b i M:Nat} (hM:M≤100000) (items:List Item) (hits:items.length≤99999) (hok:∀ x∈items,LineOk M x.1∧0<x.1.ln) (v:Value) (hv:Rd st0 v (rowsF lnRow items) 5 items.length)
  (hrd:∀ x∈items,Rd st0 x.2.1 (rowsF valRow x.1.args) 3 x.1.args.length∧Rd st0 x.2.2 (rowsF prRow x.1.prs) 5 x.1.prs.length) (hx0:Ext base st0) (hb2:base.next+2≤st0.next) (a2:At st0 base.next NN) (a3:At st0 (base.next+1) Z2):
  ∀ (k j:Nat) (l:Lay) (vw ve vv:Value) (its:List WItem) (s:SS),items.length=k+j→Bld st0 s B b i vw ve vv l its→LayOk M l→l.ents.length≤j→
  AsmL base st0 B b i base.next (base.next+1) (zbq 6 [ptr base.next 0,ptr (base.next+1) 0,ptr b 0,v,.int .i64 items.length,.int .i64 j] s) (zie l ((items.drop j).map (·.1))):=by
 intro k
 induction k with
 | zero=>
   intro j l vw ve vv its s hk hB hL hen
   have h:¬ (j:Int)<(items.length:Int):=by omega
   rw [List.drop_of_length_le (by omega)]
   refine ⟨s,vw,ve,vv,its,zd2 _ _ _ _ _ _ s ?_,hB⟩
   simp only [zdI,zdf h,zcf]
 | succ k ih=>
   intro j l vw ve vv its s hk hB hL hen
   have h:(j:Int)<(items.length:Int):=by omega
   obtain ⟨x,hx⟩:∃ x,items[j]?=some x:=⟨_,zge (by omega)⟩
   have hmem:=zmg hx
   have hd:=drop_cons hx
   have hlm:s.lim≤s.next:=hB.ext.ll hB.ll
   have hil:its.length≤2048:=by
    have h1:=hL.wlen
    have h2:=hL.pl
    rw [← hB.wds,List.length_map] at h1
    omega
   obtain ⟨p1,b1,b2,_⟩:=(hv.ext hB.ext).load (j:=(j:Int)) (by omega) h (za8 (f:=lnRow) (z:=5) (fun _=>rfl) items j x hx) rfl
   have b2':s.ldN p1.1 p1.2 5=some (.agg (lnRow x).toArray):=b2
   have ho:one x.2.1=true∧one x.2.2=true:=⟨ztd (hrd x hmem).1,ztd (hrd x hmem).2⟩
   obtain ⟨s4,e4,a4,x4,n4⟩:=za1 (n:=5) (st:=s) hlm (r:=lnRow (⟨0,[],[],[],[]⟩,.slice none 0 0,.slice none 0 0)) (row:=lnRow x) (v:=.agg (lnRow x).toArray) (zaB _) rfl (by
    simp only [lnRow,List.all_cons,List.all_nil,ho.1,ho.2]
    rfl) rfl
   have e4':(s.new (.cells [.int .i64 0,.string ⟨#[]⟩,.string ⟨#[]⟩,.slice none 0 0,.slice none 0 0] 0)).stV s.next 0 5 (.agg (lnRow x).toArray)=some s4:=e4
   have l5:s4.ldN s.next 0 5=some (.agg (lnRow x).toArray):=a4.ldN rfl
   have hf:=zum (hB.then x4) x (hrd x hmem) ho hL.pl (by omega) (by omega) (by have:=(hok x hmem).1.sa;omega)
   have hL6:zie l ((items.drop j).map (·.1))=match zjA l x.1 with
    | none=>.error (x.1.ln,1)
    | some l'=>zie l' ((items.drop (j+1)).map (·.1)):=by rw [hd];rfl
   rw [hL6]
   cases hln:zjA l x.1 with
   | none=>
     rw [hln] at hf
     obtain ⟨s6,c6,f6⟩:=hf
     have hxs:∀ q,q<st0.next→q≠b∧q≠i∧blkOf vw≠some q:=fun q hq=>⟨by have:=hB.b0;omega,by have:=hB.i0;omega,fun e=>by have:=(zcs hB.ow e).1;have:=hB.b0;have:=hB.bB;omega⟩
     have a46:At s6 s.next (lnRow x):=At.frm a4 f6 (by have:=hB.bB;have:=hB.BN;omega) (by have:=hB.iB;have:=hB.BN;omega) fun e=>by have:=(zcs hB.ow e).2;omega
     have a26:At s6 base.next NN:=At.frm (a2.ext (hB.ext.trans x4)) f6 (hxs _ (by omega)).1 (hxs _ (by omega)).2.1 (hxs _ (by omega)).2.2
     have a36:At s6 (base.next+1) Z2:=At.frm (a3.ext (hB.ext.trans x4)) f6 (hxs _ (by omega)).1 (hxs _ (by omega)).2.1 (hxs _ (by omega)).2.2
     have x6:Ext base s6:=by
      have y:=(hx0.trans hB.ext).trans x4
      exact ⟨zlt y.next f6.next,f6.lim.trans y.lim,fun q hq=>(f6.keep q (zll hq y.next) (hxs q (by omega)).1 (hxs q (by omega)).2.1 (hxs q (by omega)).2.2).trans (y.keep q hq)⟩
     have l8:s6.ld s.next 0=some (.int .i64 x.1.ln):=a46.ld
     obtain ⟨s10,e10,a10,m10,n10⟩:=a26.sto (k:=0) (vs:=NN) (row':=NN) rfl rfl
     obtain ⟨s12,e12,a12,m12,n12⟩:=(a36.mod m10 (by simp)).sto (k:=0) (vs:=[.int .i64 x.1.ln,.int .i64 1]) (row':=[.int .i64 x.1.ln,.int .i64 1]) rfl rfl
     have hne:zbD (ptr s.next 0) (ptr base.next 0)=true:=zcJ (by have:=hB.ext.next;omega)
     refine ⟨s12,zd2 _ _ _ _ _ _ s ?_,zaA (zaA x6 m10 (zlr _)) m12 (by omega),a10.mod m12 (by simp),a12⟩
     simp only [zdI,zdt h,zct,b1,b2',e4',l5,c6,zob,zah,znf,l8,zaa,hne,zad,e10,e12]
   | some l'=>
     rw [hln] at hf
     obtain ⟨s6,vw',ve',vv',its',c6,h6,_⟩:=hf
     obtain ⟨g1,g2⟩:=zpC hL (hok x hmem).1 (hok x hmem).2 hln
     have next:=ih (j+1) l' vw' ve' vv' its' s6 (by omega) h6 g1 (by omega)
     have hw1:=zaX (i:=j) (by omega)
     have step:∀ z,zbq 6 [ptr base.next 0,ptr (base.next+1) 0,ptr b 0,v,.int .i64 items.length,.int .i64 ((j+1:Nat):Int)] s6=some z→zbq 6 [ptr base.next 0,ptr (base.next+1) 0,ptr b 0,v,.int .i64 items.length,.int .i64 j] s=some z:=fun z hz=>by
      refine zd2 _ _ _ _ _ _ s ?_
      simp only [zdI,zdt h,zct,b1,b2',e4',l5,c6,zob,zah,znt,zcf,hw1]
      exact hz
     simp only
     cases hz:zie l' ((items.drop (j+1)).map (·.1)) with
     | error e=>
       rw [hz] at next
       obtain ⟨s',d1,d2⟩:=next
       exact ⟨s',step _ d1,d2⟩
     | ok l2=>
       rw [hz] at next
       obtain ⟨s',w1,w2,w3,w4,d1,d2⟩:=next
       exact ⟨s',w1,w2,w3,w4,step _ d1,d2⟩
def AsmR (st:SS) (res:Option (Value×SS)):Except (Nat×Nat) (List Wd×List (List UInt8×Int))→Prop
 | .error e=>∃ s',res=some (.tuple #[zcT (.slice none 0 0) (.slice none 0 0),zbA e,.int .i64 4],s')∧Ext st s'
 | .ok (ws,es)=>∃ s' wv ev,res=some (.tuple #[zcT wv ev,zbA (0,0),.int .i64 0],s')∧Ext st s'∧Own st.next s' wv (rowsF zdJ ws) 1 ws.length∧Own st.next s' ev (rowsF zaZ es) 2 es.length
theorem asm_ok [Sym] {st:SS} (hg:Gd st) (hl:st.lim≤st.next) (s:ByteArray) (hs:s.size≤65536):AsmR st (cc 16 [.string s] st) (znN (bl s)):=by
 have x1:Ext st (st.new (.cells NN 0)):=(Ext.refl _).new _
 have x2:Ext (st.new (.cells NN 0)) ((st.new (.cells NN 0)).new (.cells Z2 0)):=(Ext.refl _).new _
 have a2:At ((st.new (.cells NN 0)).new (.cells Z2 0)) st.next NN:=(At.new hl NN).ext x2
 have a3:At ((st.new (.cells NN 0)).new (.cells Z2 0)) (st.next+1) Z2:=At.new (st:=st.new (.cells NN 0)) (x1.ll hl) Z2
 have hn1:(st.new (.cells NN 0)).next=st.next+1:=rfl
 have hn2:((st.new (.cells NN 0)).new (.cells Z2 0)).next=st.next+2:=rfl
 have x02:=x1.trans x2
 generalize hs2:(st.new (.cells NN 0)).new (.cells Z2 0)=s2 at*
 have hp:=zt9 (hg.ext x02) (x02.ll hl) s hs
 have t0:∀ (a b c:Value),zao (.tuple #[a,b,c]) 0=some a:=fun _ _ _=>rfl
 have t1:∀ (a b c:Value),zao (.tuple #[a,b,c]) 1=some b:=fun _ _ _=>rfl
 have t2:∀ (a b c:Value),zao (.tuple #[a,b,c]) 2=some c:=fun _ _ _=>rfl
 have u0:∀ (a b:Value),zao (.tuple #[a,b]) 0=some a:=fun _ _=>rfl
 have u1:∀ (a b:Value),zao (.tuple #[a,b]) 1=some b:=fun _ _=>rfl
 unfold znN
 cases hpt:zjf (bl s) with
 | error e=>
   rw [hpt] at hp
   obtain ⟨s3,c3,x3⟩:=hp
   obtain ⟨s8,e8,a8,x8,n8⟩:=za1 (n:=2) (st:=s3) ((x02.trans x3).ll hl) (r:=Z2) (row:=[.int .i64 e.1,.int .i64 e.2]) (v:=zbA e) rfl rfl rfl rfl
   have e8':(s3.new (.cells [.int .i64 0,.int .i64 0] 0)).stV s3.next 0 2 (zbA e)=some s8:=e8
   have h4:¬ (4:Int)=0:=by decide
   have a28:=(a2.ext x3).ext x8
   have a38:=(a3.ext x3).ext x8
   have l9:s8.ldN s3.next 0 2=some (zbA e):=a8.ldN rfl
   have hne:zbD (ptr s3.next 0) (ptr st.next 0)=true:=zcJ (by have:=x3.next;omega)
   obtain ⟨s10,e10,a10,m10,n10⟩:=a28.sto (k:=0) (vs:=NN) (row':=NN) rfl rfl
   obtain ⟨s11,e11,a11,m11,n11⟩:=(a38.mod m10 (by simp)).stV (k:=0) (n:=2) (v:=zbA e) (vs:=[.int .i64 e.1,.int .i64 e.2]) rfl rfl rfl (row':=[.int .i64 e.1,.int .i64 e.2]) rfl
   have r1:=(a10.mod m11 (by simp)).rdN (n:=2) rfl
   have r2:=a11.rdN (n:=2) rfl
   refine ⟨s11,zdH _ st ?_,zaA (zaA ((x02.trans x3).trans x8) m10 (zlr _)) m11 (by omega)⟩
   simp only [zdP,hs2,hn1,c3,t0,t1,t2,zob,zaa,e8',zdf h4,znf,zct,l9,hne,e10,e11,r1,r2]
   rfl
 | ok xs=>
   rw [hpt] at hp
   obtain ⟨v,s3,c3,x3,items,hxs,hv,hrd⟩:=hp
   obtain ⟨hok,hlen⟩:=zqF hpt
   rw [zaL] at hok hlen
   obtain ⟨s8,e8,a8,x8,n8⟩:=za1 (n:=2) (st:=s3) ((x02.trans x3).ll hl) (r:=Z2) (row:=Z2) (v:=zbA (0,0)) rfl rfl rfl rfl
   have e8':(s3.new (.cells [.int .i64 0,.int .i64 0] 0)).stV s3.next 0 2 (zbA (0,0))=some s8:=e8
   have h0:(0:Int)=0:=rfl
   have x08:=(x02.trans x3).trans x8
   have hl8:=x08.ll hl
   have hlen':(lenV v).bind (asI .i64)=some (items.length:Int):=by rw [hv.len];rfl
   have hil:items.length=xs.length:=by rw [← hxs,List.length_map]
   have hmp:((s8.new (.map [])).new (.cells (bldRow 0 s8.next (.slice none 0 0) (.slice none 0 0) (.slice none 0 0)) 0)).mem.get s8.next=some (.map []):=by
    rw [SS.new_old (by simp)];exact SS.new_get
   have hB0:Bld s8 ((s8.new (.map [])).new (.cells (bldRow 0 s8.next (.slice none 0 0) (.slice none 0 0) (.slice none 0 0)) 0)) (s8.next+2) (s8.next+1) s8.next (.slice none 0 0) (.slice none 0 0) (.slice none 0 0) zif []:=
    ⟨((Ext.refl s8).new _).new _,hl8,At.new (st:=s8.new (.map [])) (by simp;omega) _,hmp,by omega,zlr _,by omega,by omega,by omega,by simp,Own.nil _ _ _,Own.nil _ _ _,Own.nil _ _ _,fun j hj=>(by cases hj),fun j hj=>(by cases hj),rfl,fun x hx=>(by cases hx)⟩
   have hb2:st.next+2≤s8.next:=by have:=x3.next;have:=x8.next;omega
   have hloop:=zvv (base:=st) (st0:=s8) (B:=s8.next+2) (b:=s8.next+1) (i:=s8.next) (M:=s.size+1) (by omega) items (by omega) (fun x hx=>hok x.1 (by rw [← hxs];exact List.mem_map_of_mem hx)) v (hv.ext x8) (fun x hx=>⟨(hrd x hx).1.ext x8,(hrd x hx).2.ext x8⟩) x08 hb2 ((a2.ext x3).ext x8) ((a3.ext x3).ext x8)
    items.length 0 zif _ _ _ [] _ rfl hB0 (znM _) (by simp [zif])
   rw [List.drop_zero,hxs] at hloop
   have b0:Nat.beq 0 0=true:=rfl
   have b1:Nat.beq 1 0=false:=rfl
   simp only
   cases hly:zie zif xs with
   | error e=>
     rw [hly] at hloop
     obtain ⟨s17,d1,d2,d3,d4⟩:=hloop
     have d1':zbq 6 [ptr st.next 0,ptr (st.next+1) 0,ptr (s8.new (.map [])).next 0,v,.int .i64 items.length,.int .i64 0] ((s8.new (.map [])).new (.cells [.int .i64 0,.map (some s8.next),.slice none 0 0,.slice none 0 0,.slice none 0 0] 0))=_:=d1
     have r1:=d3.rdN (n:=2) rfl
     have r2:=d4.rdN (n:=2) rfl
     refine ⟨s17,zdH _ st ?_,d2⟩
     simp only [zdP,hs2,hn1,c3,t0,t1,t2,zob,zaa,e8',decide_true,znt,zcf,hlen']
     rw [d1',zob]
     simp only [b1,zcf,zgs,zgz,zob,zad,zaa,r1,r2]
     rfl
   | ok l=>
     rw [hly] at hloop
     obtain ⟨s17,vw,ve,vv,its,d1,hB⟩:=hloop
     have d1':zbq 6 [ptr st.next 0,ptr (st.next+1) 0,ptr (s8.new (.map [])).next 0,v,.int .i64 items.length,.int .i64 0] ((s8.new (.map [])).new (.cells [.int .i64 0,.map (some s8.next),.slice none 0 0,.slice none 0 0,.slice none 0 0] 0))=_:=d1
     obtain ⟨hL,hen⟩:=zqG xs zif l (znM (s.size+1)) hok hly
     simp only [zif,List.length_nil,Nat.zero_add] at hen
     have x017:=x08.trans hB.ext
     have hlay:=lay_ok hB hL (by omega) (by omega) (hg.ext x017)
     have a217:=((a2.ext x3).ext x8).ext hB.ext
     have a317:=((a3.ext x3).ext x8).ext hB.ext
     have hn17:st.next+2≤s17.next:=zlt hb2 hB.ext.next
     simp only
     cases hro:zih l with
     | error e=>
       rw [hro] at hlay
       obtain ⟨s21,c21,x21,hne⟩:=hlay
       have hll21:=x21.ll (x017.ll hl)
       have y1:Ext s21 (s21.new (.cells NN 0)):=(Ext.refl _).new _
       have y2:Ext (s21.new (.cells NN 0)) ((s21.new (.cells NN 0)).new (.cells Z2 0)):=(Ext.refl _).new _
       have q1:At ((s21.new (.cells NN 0)).new (.cells Z2 0)) s21.next NN:=(At.new hll21 NN).ext y2
       have q2:At ((s21.new (.cells NN 0)).new (.cells Z2 0)) (s21.new (.cells NN 0)).next Z2:=At.new (st:=s21.new (.cells NN 0)) (y1.ll hll21) Z2
       have hnn:(s21.new (.cells NN 0)).next=s21.next+1:=rfl
       obtain ⟨s26,e26,a26,m26,n26⟩:=q1.stV (k:=0) (n:=2) (v:=zcT (.slice none 0 0) (.slice none 0 0)) (vs:=NN) rfl rfl rfl (row':=NN) rfl
       obtain ⟨s27,e27,a27,m27,n27⟩:=(q2.mod m26 (by simp)).stV (k:=0) (n:=2) (v:=zbA e) (vs:=[.int .i64 e.1,.int .i64 e.2]) rfl rfl rfl (row':=[.int .i64 e.1,.int .i64 e.2]) rfl
       have l28:s27.ldN (s21.new (.cells NN 0)).next 0 2=some (.agg #[.int .i64 e.1,.int .i64 e.2]):=a27.ldN rfl
       have heq:(decide ((e.1:Int)=0)&&(decide ((e.2:Int)=0)&&true))=false:=by
        rw [Bool.and_true,← Bool.decide_and,decide_eq_false_iff_not]
        exact fun hh=>hne (Prod.ext (by omega) (by omega))
       have x27:Ext s21 s27:=zaA (zaA (y1.trans y2) m26 (zlr _)) m27 (by simp)
       have xx27:=(x017.trans x21).trans x27
       have hp1:zbD (ptr (s21.new (.cells NN 0)).next 0) (ptr st.next 0)=true:=zcJ (by have:=x21.next;simp;omega)
       obtain ⟨s32,e32,a32,m32,n32⟩:=((a217.ext x21).ext x27).sto (k:=0) (vs:=NN) (row':=NN) rfl rfl
       obtain ⟨s34,e34,a34,m34,n34⟩:=(((a317.ext x21).ext x27).mod m32 (by simp)).stV (k:=0) (n:=2) (v:=.agg #[.int .i64 e.1,.int .i64 e.2]) (vs:=[.int .i64 e.1,.int .i64 e.2]) rfl rfl rfl (row':=[.int .i64 e.1,.int .i64 e.2]) rfl
       have r1:=(a32.mod m34 (by simp)).rdN (n:=2) rfl
       have r2:=a34.rdN (n:=2) rfl
       refine ⟨s34,zdH _ st ?_,zaA (zaA xx27 m32 (zlr _)) m34 (by omega)⟩
       simp only [zdP,hs2,hn1,c3,t0,t1,t2,zob,zaa,e8',decide_true,znt,zcf,hlen']
       rw [d1',zob]
       simp only [b0,zct,zgs,zgz,zob]
       rw [c21,zob]
       simp only [u0,u1,zob,e26,e27,l28,zpF,heq,znf,zah,zct,hp1,zad,e32,e34,r1,r2]
       rfl
     | ok y=>
       obtain ⟨ws,es⟩:=y
       rw [hro] at hlay
       obtain ⟨s21,wv,ev,c21,x21,o1,o2⟩:=hlay
       have hll21:=x21.ll (x017.ll hl)
       have w1:one wv=true:=(Own.cell o1).2
       have w2:one ev=true:=(Own.cell o2).2
       have y1:Ext s21 (s21.new (.cells NN 0)):=(Ext.refl _).new _
       have y2:Ext (s21.new (.cells NN 0)) ((s21.new (.cells NN 0)).new (.cells Z2 0)):=(Ext.refl _).new _
       have q1:At ((s21.new (.cells NN 0)).new (.cells Z2 0)) s21.next NN:=(At.new hll21 NN).ext y2
       have q2:At ((s21.new (.cells NN 0)).new (.cells Z2 0)) (s21.new (.cells NN 0)).next Z2:=At.new (st:=s21.new (.cells NN 0)) (y1.ll hll21) Z2
       obtain ⟨s26,e26,a26,m26,n26⟩:=q1.stV (k:=0) (n:=2) (v:=zcT wv ev) (vs:=[wv,ev]) rfl rfl (by simp [w1,w2]) (row':=[wv,ev]) rfl
       obtain ⟨s27,e27,a27,m27,n27⟩:=(q2.mod m26 (by simp)).stV (k:=0) (n:=2) (v:=zbA (0,0)) (vs:=Z2) rfl rfl rfl (row':=Z2) rfl
       have l28:s27.ldN (s21.new (.cells NN 0)).next 0 2=some (.agg #[.int .i64 0,.int .i64 0]):=a27.ldN rfl
       have heq:(decide ((0:Int)=0)&&(decide ((0:Int)=0)&&true))=true:=rfl
       have x27:Ext s21 s27:=zaA (zaA (y1.trans y2) m26 (zlr _)) m27 (by simp)
       have xx27:=(x017.trans x21).trans x27
       have l39:s27.ldN s21.next 0 2=some (.agg [wv,ev].toArray):=(a26.mod m27 (by simp)).ldN rfl
       obtain ⟨s41,e41,a41,m41,n41⟩:=((a217.ext x21).ext x27).stV (k:=0) (n:=2) (v:=.agg [wv,ev].toArray) (vs:=[wv,ev]) (zaB _) rfl (by simp [w1,w2]) (row':=[wv,ev]) rfl
       obtain ⟨s43,e43,a43,m43,n43⟩:=(((a317.ext x21).ext x27).mod m41 (by simp)).sto (k:=0) (vs:=Z2) (row':=Z2) rfl rfl
       have r1:=(a41.mod m43 (by simp)).rdN (n:=2) rfl
       have r2:=a43.rdN (n:=2) rfl
       have z1:∀ m,m∈[st.next]→m<s17.next:=by intro m hm;have e:m=st.next:=(by simpa using hm);omega
       have z2:∀ m,m∈[st.next+1]→m<s17.next:=by intro m hm;have e:m=st.next+1:=(by simpa using hm);omega
       refine ⟨s43,wv,ev,zdH _ st ?_,zaA (zaA xx27 m41 (zlr _)) m43 (by omega),(((o1.ext x27).modLt m41 z1).modLt m43 z2).low (by omega),(((o2.ext x27).modLt m41 z1).modLt m43 z2).low (by omega)⟩
       simp only [zdP,hs2,hn1,c3,t0,t1,t2,zob,zaa,e8',decide_true,znt,zcf,hlen']
       rw [d1',zob]
       simp only [b0,zct,zgs,zgz,zob]
       rw [c21,zob]
       simp only [u0,u1,zob,e26,e27,l28,zpF,heq,znt,zah,zcf,l39,zad,e41,e43,r1,r2]
       rfl
end Go.Proofs.YtifploedaacedaaGreatDoorE
namespace Go.Proofs.YtifploedaacedaaGreatDoorE
open Go Go.E Go.Proofs
def Free (L:List OL) (j:Nat):Prop:=∀ (k:Nat) (o:OL),L[k]?=some o→blkOf o.v≠some j
structure FrL (b:Nat) (st:SS) (L:List OL) (st':SS) (L':List OL):Prop where
 next:st.next≤st'.next
 lim:st'.lim=st.lim
 keep:∀ j,j<st.next→j≠b→Free L j→st'.mem.get j=st.mem.get j∧Free L' j
section
variable {b B : Nat} {st st' st'' : SS} {L L' L'' : List OL}
theorem FrL.trans (h:FrL b st L st' L') (k:FrL b st' L' st'' L''):FrL b st L st'' L'':=⟨zlt h.next k.next,k.lim.trans h.lim,fun j h1 h2 h3=>by
 obtain ⟨a,c⟩:=h.keep j h1 h2 h3
 obtain ⟨d,e⟩:=k.keep j (zll h1 h.next) h2 c
 exact ⟨d.trans a,e⟩⟩
theorem FrL.ext (x:Ext st st'):FrL b st L st' L:=⟨x.next,x.lim,fun j h1 _ h3=>⟨x.keep j h1,h3⟩⟩
theorem FrL.mod (m:Mod [b] st st'):FrL b st L st' L:=⟨m.next,m.lim,fun j h1 h2 h3=>⟨m.keep j h1 (by simpa using h2),h3⟩⟩
theorem Owns.free (h:Owns B st L) {j:Nat} (hj:j<B):Free L j:=fun k o ho e=>by have:=(zcs (h.own k o ho) e).1;omega
theorem FrL.at (f:FrL b st L st' L') {j:Nat} {row:List Value} (h:At st j row) (h1:j≠b) (h2:Free L j):At st' j row:=⟨(f.keep j h.lt h1 h2).1.trans h.1,zll h.lt f.next,by rw [f.lim];exact h.2.2⟩
theorem FrL.toExt {st0:SS} (f:FrL b st L st' L') (x:Ext st0 st) (hb:st0.next≤b) (ow:Owns B st L) (hB:st0.next≤B):Ext st0 st':=⟨zlt x.next f.next,f.lim.trans x.lim,fun j hj=>(f.keep j (zll hj x.next) (by omega) (ow.free (by omega))).1.trans (x.keep j hj)⟩
theorem Owns.grow {row:List Value} (ha:At st b row) (hb:b<B) (hB:B≤st.next) (hl:st.lim≤B) (ow:Owns B st L) {k:Nat} {v:Value} {c rw':List Value} {z n bt:Nat} (hk:L[k]?=some ⟨v,c,z,n⟩) (hkr:k<row.length) (hr:rw'.length=z) (hz:0<z) (h1:rw'.all one=true) (hs:(n+2)*bt≤2^44) (hn:n+1≤2^44):
  ∃ w s1 s2,(st.new (.cells rw' z)).app z bt v (.slice (some ⟨st.next,0,none⟩) 1 1)=some (w,s1)∧s1.stV b k 1 w=some s2∧At s2 b (row.set k w)∧Owns B s2 (L.set k ⟨w,c++rw',z,n+1⟩)∧FrL b st L s2 (L.set k ⟨w,c++rw',z,n+1⟩):=by
 obtain ⟨j,s1,f1,f2,f3⟩:=ow.push hk hB hl hr hz h1 hs hn
 have a1:=ha.keepB f3 hb (by simp)
 obtain ⟨s2,e2,a2,m2,n2⟩:=a1.stV (k:=k) (n:=1) (v:=.slice (some ⟨j,0,none⟩) (n+1) (n+1)) (zkQ _ _ _) rfl rfl (zjy hkr _)
 refine ⟨_,s1,s2,f1,e2,a2,f2.modLt m2 (by intro m hm;have e:m=b:=(by simpa using hm);omega),?_⟩
 have hlt:k<L.length:=(List.getElem?_eq_some_iff.1 hk).1
 obtain ⟨j',s1',g1,g2,g3,g4,g5,g6⟩:=zhu (row:=rw') (bt:=bt) (ow.own k _ hk) hB hl hr hz h1 hs hn
 have hsame:=f1.symm.trans g1
 simp only [zsj,zpj,Value.slice.injEq,Addr.mk.injEq,and_true,true_and] at hsame
 obtain ⟨e1,e2'⟩:=hsame
 subst e1
 subst e2'
 refine ⟨zlt f3.next m2.next,m2.lim.trans f3.lim,fun q h1 h2 h3=>⟨(m2.keep q (zll h1 f3.next) (by simpa using h2)).trans (g6 q h1 (h3 k _ hk)),fun m o ho e=>?_⟩⟩
 by_cases hm:m=k
 ·subst hm
  rw [List.getElem?_set_self hlt] at ho
  cases ho
  cases e
  omega
 ·rw [List.getElem?_set_ne (fun e=>hm e.symm)] at ho
  exact h3 m o ho e
end
structure V6 where
 n:Value
 m:Value
 l:Value
 p:Value
 e:Value
 a:Value
def nmR (x:List UInt8×Int):List Value:=[.string (mkS x.1)]
def nuR (x:List UInt8×Int):List Value:=[.int .i64 x.2]
def lnR (x:WItem):List Value:=lnRow x.2
def plR (x:WItem):List Value:=[.int .i64 x.1]
def veR (x:Val×Nat×Nat):List Value:=valRow x.1
theorem zux (l:Nms):rowsF nmR l=strs (l.map (·.1)):=by
 induction l with
 | nil=>rfl
 | cons x r ih=>rw [zbE,ih];rfl
def LO (v:V6) (l:Lay) (its:List WItem):List OL:=[⟨v.n,rowsF nmR l.nms,1,l.nms.length⟩,⟨v.m,rowsF nuR l.nms,1,l.nms.length⟩,⟨v.l,rowsF lnR its,5,its.length⟩,⟨v.p,rowsF plR its,1,its.length⟩,⟨v.e,rowsF veR l.ents,3,l.ents.length⟩,⟨v.a,rowsF entRow l.ents,2,l.ents.length⟩]
def ldRow (v:V6) (pl:Nat):List Value:=[v.n,v.m,v.l,v.p,v.e,v.a,.int .i64 pl]
structure Rld (st0 st:SS) (B b:Nat) (v:V6) (l:Lay) (its:List WItem):Prop where
 ext:Ext st0 st
 ll:st0.lim≤st0.next
 row:At st b (ldRow v l.pl)
 b0:st0.next≤b
 bB:b<B
 BN:B≤st.next
 ow:Owns B st (LO v l its)
 wds:its.map (fun x=>(x.1,x.2.1))=l.wds
 itr:∀ x∈its,Rd st0 x.2.2.1 (rowsF valRow x.2.1.args) 3 x.2.1.args.length∧Rd st0 x.2.2.2 (rowsF prRow x.2.1.prs) 5 x.2.1.prs.length
section
variable {st0 st st' : SS} {B b : Nat} {v : V6} {l : Lay} {its : List WItem}
theorem Rld.then (h:Rld st0 st B b v l its) (x:Ext st st'):Rld st0 st' B b v l its:=
 { h with ext:=h.ext.trans x,row:=h.row.ext x,BN:=zlt h.BN x.next,ow:=h.ow.ext x }
theorem Rld.limB (h:Rld st0 st B b v l its):st.lim≤B:=by rw [h.ext.lim];have:=h.ll;have:=h.b0;have:=h.bB;omega
theorem Rld.place (h:Rld st0 st B b v l its) (p:Nat):∃ st',st.st b 6 [.int .i64 p]=some st'∧Rld st0 st' B b v { l with pl:=p } its∧Mod [b] st st':=by
 obtain ⟨s',e,a,m,_⟩:=h.row.sto (k:=6) (vs:=[.int .i64 p]) (row':=ldRow v p) rfl rfl
 exact ⟨s',e,{ h with ext:=zaA h.ext m h.b0,row:=a,BN:=zlt h.BN m.next,ow:=h.ow.modLt m (by intro j hj;have e:j=b:=(by simpa using hj);have:=h.bB;omega) },m⟩
theorem zpG:∀ (l:Nms) (n:List UInt8),match zbU l n with
  | none=>inT (l.map (·.1)) n= -1
  | some x=>∃ k:Nat,inT (l.map (·.1)) n=k∧∃ y,l[k]?=some (y,x)
 | [],n=>rfl
 | a::r,n=>by
   have ih:=zpG r n
   unfold zbU inT
   rw [List.find?_cons,List.map_cons,List.findIdx?_cons]
   by_cases h:n=a.1
   ·rw [zdt h,zdt h.symm]
    exact ⟨0,rfl,a.1,rfl⟩
   ·rw [zdf h,zdf (fun e=>h e.symm)]
    unfold zbU inT at ih
    simp only
    cases hf:r.find? (fun x=>decide (n=x.1)) with
    | none=>
      rw [hf] at ih
      cases hi:(r.map (·.1)).findIdx? (fun x=>decide (x=n)) with
      | none=>simp [hi]
      | some k=>rw [hi] at ih;simp at ih
    | some y=>
      rw [hf] at ih
      simp only [Option.map_some] at ih ⊢
      obtain ⟨k,h1,h2⟩:=ih
      cases hi:(r.map (·.1)).findIdx? (fun x=>decide (x=n)) with
      | none=>rw [hi] at h1;simp at h1
      | some j=>
        rw [hi] at h1
        refine ⟨j+1,by simp,?_⟩
        have:k=j:=by simp only at h1;omega
        subst this
        simpa using h2
theorem Rld.define [Sym] (h:Rld st0 st B b v l its) (hsz:l.nms.length≤1000000) (n:List UInt8) (x:Int):
  match l.define n x with
  | none=>∃ st',cc 74 [ptr b 0,.string (mkS n),.int .i64 x] st=some (.bool false,st')∧Ext st st'
  | some l'=>∃ st' v',cc 74 [ptr b 0,.string (mkS n),.int .i64 x] st=some (.bool true,st')∧Rld st0 st' B b v' l' its∧FrL b st (LO v l its) st' (LO v' l' its):=by
 have hnl:zam (ptr b 0)=some (ptr b 0):=rfl
 have l3:st.ld b 0=some v.n:=h.row.ld
 have on:Rd st v.n (strs (l.nms.map (·.1))) 1 (l.nms.map (·.1)).length:=by
  have:=(h.ow.own 0 _ rfl).rd
  rw [zux] at this
  rw [List.length_map]
  exact this
 obtain ⟨n4,hn4,c4⟩:=in_ok (l.nms.map (·.1)) (by simp;omega) (mkS n) v.n st on
 rw [zbm] at c4
 have x4:Ext st (st.adv n4):=(Ext.refl _).adv hn4
 have hfi:=zpG l.nms n
 unfold Lay.define
 cases hf:zbU l.nms n with
 | some y=>
   rw [hf] at hfi
   obtain ⟨k,h1,_⟩:=hfi
   rw [if_pos (.inl rfl)]
   refine ⟨_,zb6 _ _ _ st ?_,x4⟩
   have h0:(0:Int)≤inT (l.nms.map (·.1)) n:=by omega
   simp only [zbN,hnl,zob,zad,l3,c4,zaa,zdt h0,zct]
 | none=>
   rw [hf] at hfi
   simp only at hfi
   have h0:¬ (0:Int)≤inT (l.nms.map (·.1)) n:=by omega
   have he:eqT (mkS n) ⟨#[]⟩=decide (n=[]):=zdk _
   by_cases hn:n=[]
   ·rw [if_pos (.inr hn)]
    refine ⟨_,zb6 _ _ _ st ?_,x4⟩
    simp only [zbN,hnl,zob,zad,l3,c4,zaa,zdf h0,zcf,he,zdt hn,zct]
   ·rw [if_neg (by rintro (e | e);cases e;exact hn e)]
    have h4:=h.then x4
    have l8:(st.adv n4).ld b 0=some v.n:=h4.row.ld
    obtain ⟨w1,s10,s13,f1,f2,f3,f4,f5⟩:=Owns.grow (k:=0) (bt:=16) (rw':=nmR (n,x)) h4.row h4.bB h4.BN h4.limB h4.ow rfl (by simp [ldRow]) rfl (by omega) rfl (by omega) (by omega)
    have f1':((st.adv n4).new (.cells [.string (mkS n)] 1)).app 1 16 v.n (.slice (some ⟨n4,0,none⟩) 1 1)=some (w1,s10):=f1
    have l16:s13.ld b (0+1)=some v.m:=f3.ld
    obtain ⟨w2,s18,s21,g1,g2,g3,g4,g5⟩:=Owns.grow (k:=1) (bt:=8) (rw':=nuR (n,x)) f3 h4.bB (zlt h4.BN f5.next) (by rw [f5.lim];exact h4.limB) f4 rfl (by simp [ldRow]) rfl (by omega) rfl (by omega) (by omega)
    have g1':(s13.new (.cells [.int .i64 x] 1)).app 1 8 v.m (.slice (some ⟨s13.next,0,none⟩) 1 1)=some (w2,s18):=g1
    have g2':s18.stV b (0+1) 1 w2=some s21:=g2
    have e2:LO { v with n:=w1,m:=w2 } { l with nms:=l.nms++[(n,x)] } its=((LO v l its).set 0 ⟨w1,rowsF nmR l.nms++nmR (n,x),1,l.nms.length+1⟩).set 1 ⟨w2,rowsF nuR l.nms++nuR (n,x),1,l.nms.length+1⟩:=by
     simp only [LO,zbQ,zcX,List.length_append,List.length_cons,List.length_nil]
     rfl
    have fr:FrL b st (LO v l its) s21 (LO { v with n:=w1,m:=w2 } { l with nms:=l.nms++[(n,x)] } its):=by
     rw [e2]
     exact ((FrL.ext x4).trans f5).trans g5
    refine ⟨s21,{ v with n:=w1,m:=w2 },zb6 _ _ _ st ?_,{ h with ext:=fr.toExt h.ext h.b0 h.ow (by have:=h.b0;have:=h.bB;omega),row:=g3,BN:=zlt h.BN fr.next,ow:=by rw [e2];exact g4 },fr⟩
    simp only [zbN,hnl,zob,zad,l3,c4,zaa,zdf h0,zcf,he,zdf hn,l8,List.append_nil,SS.adv_next,f1',f2,l16,g1',g2']
end
end Go.Proofs.YtifploedaacedaaGreatDoorE
namespace Go.Proofs.YtifploedaacedaaGreatDoorE
open Go Go.E Go.Proofs
def zgW (k:Nat):Nat:=(zcz.drop k).sum
theorem zm8 {k:Nat} (h:k<12):zgW k=zat k+zgW (k+1)∧zgW k≤64:=by
 have:∀ k,k<12→zgW k=zat k+zgW (k+1)∧zgW k≤64:=by decide+kernel
 exact this k h
theorem zte {w:Wd} (hw:w.length=12):zd8 (zcz.drop 12) (w.drop 12)=0:=by
 rw [List.drop_of_length_le (l:=w) (by omega)]
 rfl
theorem zjF {w:Wd} (hw:w.length=12) {k:Nat} (h:k<12):zd8 (zcz.drop k) (w.drop k)=w.getD k 0+2^zat k*zd8 (zcz.drop (k+1)) (w.drop (k+1)):=by
 rw [zm0 h,getD_drop (by omega)];rfl
theorem zkS {w:Wd} (hw:w.length=12) (hg:zc5 w=true):∀ (m k:Nat),12=m+k→∃ X:Nat,zd8 (zcz.drop k) (w.drop k)=X∧X<2^zgW k
 | 0,k,h=>by
   have:k=12:=by omega
   subst this
   exact ⟨0,zte hw,Nat.two_pow_pos _⟩
 | m+1,k,h=>by
   obtain ⟨X,h1,h2⟩:=zkS hw hg m (k+1) (by omega)
   obtain ⟨p,hp,hlt⟩:=zjz hg (k:=k) (by omega)
   have ht:=(zm8 (k:=k) (by omega)).1
   refine ⟨p+2^zat k*X,by rw [zjF hw (by omega),h1,hp];push_cast;rfl,?_⟩
   rw [ht,Nat.pow_add]
   have h3:2^zat k*(X+1)≤2^zat k*2^zgW (k+1):=Nat.mul_le_mul_left _ h2
   rw [Nat.mul_add,Nat.mul_one] at h3
   omega
theorem zoq {nms:Nms} {N:Nat}:∀ (xs:List (Nat×PLine)) (ws ws':List Wd),(∀ w∈ws,zii w)→zc6 nms N xs ws=.ok ws'→∀ w∈ws',zii w
 | [],ws,ws',hw,h=>by cases h;exact hw
 | x::r,ws,ws',hw,h=>by
   unfold zc6 at h
   split at h
   ·cases h
   ·split at h
    ·cases h
    ·refine zoq r _ ws' (fun w hm=>?_) h
     rcases List.mem_or_eq_of_mem_set hm with h1 | h1
     ·exact hw w h1
     ·rw [h1];exact zqH _ _
theorem zvw {t:List UInt8} {ws:List Wd} {es:List (List UInt8×Int)} (h:znN t=.ok (ws,es)):(∀ w∈ws,zii w)∧ws.length≤2048:=by
 unfold znN at h
 cases hp:zjf t with
 | error z=>rw [hp] at h;cases h
 | ok xs=>
   rw [hp] at h
   simp only at h
   cases hl:zie zif xs with
   | error z=>rw [hl] at h;cases h
   | ok l=>
     rw [hl] at h
     obtain ⟨hok,hlen⟩:=zqF hp
     obtain ⟨hL,_⟩:=zqG xs zif l (znM _) hok hl
     simp only [zih] at h
     cases hw:zc6 l.nms (sizeT l) l.wds (List.replicate (sizeT l) zaO) with
     | error z=>rw [hw] at h;cases h
     | ok ws'=>
       rw [hw] at h
       simp only at h
       cases he:zgb l.nms (sizeT l) l.ents with
       | error z=>rw [he] at h;cases h
       | ok es'=>
         rw [he] at h
         cases h
         refine ⟨zoq _ _ _ (fun w hm=>by rw [List.eq_of_mem_replicate hm];exact zpD) hw,?_⟩
         rw [zjD _ _ _ hw,List.length_replicate]
         exact (zl8 hL).2
end Go.Proofs.YtifploedaacedaaGreatDoorE
namespace Go.Proofs.YtifploedaacedaaGreatDoorE
open Go Go.E Go.Proofs
def zaF (X k:Nat):Nat:=X/2^za4 k%2^zat k
def upTo (X k:Nat):Wd:=(List.range 12).map fun i=>if i<k then ((zaF X i:Nat):Int) else 0
def zcg (X:Nat):Wd:=upTo X 12
theorem zjG (X k:Nat):(upTo X k).length=12:=by simp [upTo]
theorem ztf (X:Nat):upTo X 0=zaO:=by
 apply List.ext_getElem
 ·simp [upTo,zaO]
 ·intro i a b
  simp only [upTo,List.getElem_map,List.getElem_range,zaO,List.getElem_replicate,if_neg (Nat.not_lt_zero i)]
theorem zuy (X k:Nat) (hk:k<12):(upTo X k).set k (zaF X k:Int)=upTo X (k+1):=by
 apply List.ext_getElem
 ·simp [upTo]
 ·intro i a b
  rw [List.getElem_set]
  simp only [upTo,List.getElem_map,List.getElem_range]
  by_cases h:k=i
  ·subst h
   simp
  ·rw [if_neg h]
   by_cases h2:i<k
   ·rw [if_pos h2,if_pos (by omega)]
   ·rw [if_neg h2,if_neg (by omega)]
theorem andU64 {a s:Nat} (ha:a<2^64) (hs:s<64):zfN .u64 (a:Int) ((2^s-1:Nat):Int)=((a%2^s:Nat):Int):=by
 have hp:2^s<2^64:=Nat.pow_lt_pow_right (by omega) hs
 have h0:0<2^s:=Nat.two_pow_pos s
 have hm:=Nat.mod_lt a h0
 unfold zfN
 have e:((BitVec.ofInt 64 (a:Int)&&& BitVec.ofInt 64 ((2^s-1:Nat):Int)).toNat:Nat)=a%2^s:=by
  rw [BitVec.toNat_and,BitVec.ofInt_natCast,BitVec.ofInt_natCast,BitVec.toNat_ofNat,BitVec.toNat_ofNat,Nat.mod_eq_of_lt ha,Nat.mod_eq_of_lt (by omega),Nat.and_two_pow_sub_one_eq_mod]
 show IntKind.wrap .u64 (((BitVec.ofInt 64 (a:Int)&&& BitVec.ofInt 64 ((2^s-1:Nat):Int)).toNat:Nat):Int)=_
 rw [e]
 exact zem (by omega) (by omega)
theorem shr64 {c s:Nat} (hs:s<64):(aI .shr .u64 (c:Int) (s:Int)).bind (asI .u64)=some ((c/2^s:Nat):Int):=by
 have hb:¬ ((s:Int)<0):=by omega
 have e:min ((s:Int)).toNat (IntKind.bits .u64)=s:=by
  show min ((s:Int)).toNat 64=s
  rw [Int.toNat_natCast];omega
 have e2:zni .u64 (c:Int) (s:Int)=((c/2^s:Nat):Int):=by
  unfold zni
  rw [e,show (2:Int)^s=((2^s:Nat):Int) by simp]
  rw [Int.fdiv_eq_ediv_of_nonneg _ (Int.natCast_nonneg _)]
  rfl
 simp only [aI,zdf hb,zcf,zob,zaa,e2]
theorem zuz [Sym] (X:Nat) (hX:X<2^64) (b j t2:Nat) (base:SS) (hg:Gd base) (hjb:j≠b) (hb2:t2≠b) (hbb:base.next≤b):∀ (m k:Nat) (s:SS),12=m+k→Ext base s→s.mem.get j=some (.cells (plRow b) 1)→j<s.next→At s b (wRow (upTo X k))→At s t2 Z12→
  ∃ s',Ext base s'∧zc4 3 [.int .u64 ((X/2^za4 k:Nat):Int),ptr t2 0,ptr b 0,.slice (some ⟨j,0,none⟩) 12 12,.int .i64 12,.int .i64 k] s=some (0,[ptr t2 0,ptr b 0],s')∧At s' b (wRow (zcg X))∧At s' t2 Z12:=by
 intro m
 induction m with
 | zero=>
   intro k s hk he p1 hj ab at2
   have e:k=12:=by omega
   subst e
   have h:¬ (((12:Nat):Int))<12:=by omega
   refine ⟨s,he,zgk _ _ _ _ _ _ s ?_,ab,at2⟩
   simp only [zfx,zdf h,zcf]
 | succ m ih=>
   intro k s hk he p1 hj ab at2
   have gs:=hg.ext he
   have hk12:k<12:=by omega
   have h:(k:Int)<12:=by omega
   have l2:s.ld j (0+k*1)=some (ptr b k):=by rw [SS.ld_cells p1,show 0+k*1=k by omega,zky _ hk12]
   have l4:=zkx gs hk12
   have hbk:=zgl k
   have hp11:2^zat k≤2^11:=Nat.pow_le_pow_right (by omega) hbk
   have h0:0<2^zat k:=Nat.two_pow_pos _
   have s5:(aI .shl .u64 1 (zat k:Int)).bind (asI .u64)=some ((2^zat k:Nat):Int):=by
    have:=shl64 (c:=1) (s:=zat k) (by omega) (by omega)
    simpa using this
   have w6:IntKind.wrap .u64 (((2^zat k:Nat):Int)-1)=((2^zat k-1:Nat):Int):=by
    rw [show ((2^zat k:Nat):Int)-1=((2^zat k-1:Nat):Int) by omega]
    exact zem (by omega) (by omega)
   have hXk:X/2^za4 k<2^64:=Nat.lt_of_le_of_lt (Nat.div_le_self _ _) hX
   have w7:=andU64 (a:=X/2^za4 k) (s:=zat k) hXk (by omega)
   have hup:X/2^za4 k%2^zat k=zaF X k:=rfl
   rw [hup] at w7
   have hul:zaF X k<2^11:=zll (Nat.mod_lt _ h0) hp11
   have w8:IntKind.wrap .i64 ((zaF X k:Nat):Int)=((zaF X k:Nat):Int):=wrap64 (by omega) (by omega)
   have s12:=shr64 (c:=X/2^za4 k) (s:=zat k) (by omega)
   have hdiv:X/2^za4 k/2^zat k=X/2^za4 (k+1):=by rw [Nat.div_div_eq_div_mul,← Nat.pow_add,← zkz hk12]
   rw [hdiv] at s12
   obtain ⟨s11,e11,a11,m11,n11⟩:=ab.sto (k:=k) (vs:=[.int .i64 ((zaF X k:Nat):Int)]) (row':=wRow (upTo X (k+1))) rfl (by
    rw [zjy (by rw [za6,zjG];exact hk12),← zpv,zuy X k hk12])
   have hnl:zam (ptr b k)=some (ptr b k):=rfl
   have hw1:=zaX (i:=k) (by omega)
   obtain ⟨s',f1,f2,f3⟩:=ih (k+1) s11 (by omega) (zaA he m11 hbb) (m11.get hj (by simpa using hjb) p1) (by rw [n11];exact hj) a11 (at2.mod m11 (by simpa using hb2))
   refine ⟨s',f1,zgk _ _ _ _ _ _ s ?_,f3⟩
   simp only [zfx,zdt h,zct,plS hk12,zob,l2,zmY hk12,l4,zaa,s5,w6,w7,w8,hnl,zad,e11,s12,hw1]
   exact f2
theorem ztg [Sym] (X:Nat) (hX:X<2^64) (st:SS) (hg:Gd st):∃ n,st.next≤n∧cc 20 [.int .u64 X] st=some (wV (zcg X),st.adv n):=by
 have x1:Ext (st.ro st.next) ((st.ro st.next).new (.cells Z12 0)):=(Ext.refl _).new _
 have x2:Ext ((st.ro st.next).new (.cells Z12 0)) (((st.ro st.next).new (.cells Z12 0)).new (.cells Z12 0)):=(Ext.refl _).new _
 have a1:At (((st.ro st.next).new (.cells Z12 0)).new (.cells Z12 0)) st.next Z12:=(At.new (st:=st.ro st.next) (zlr _) _).ext x2
 have a2:At (((st.ro st.next).new (.cells Z12 0)).new (.cells Z12 0)) (st.next+1) Z12:=At.new (st:=(st.ro st.next).new (.cells Z12 0)) (by simp) _
 have hn1:((st.ro st.next).new (.cells Z12 0)).next=st.next+1:=rfl
 have c3:=zhU (st.next+1) (((st.ro st.next).new (.cells Z12 0)).new (.cells Z12 0))
 have x3:Ext (((st.ro st.next).new (.cells Z12 0)).new (.cells Z12 0)) ((((st.ro st.next).new (.cells Z12 0)).new (.cells Z12 0)).new (.cells (plRow (st.next+1)) 1)):=(Ext.refl _).new _
 have hpl:((((st.ro st.next).new (.cells Z12 0)).new (.cells Z12 0)).new (.cells (plRow (st.next+1)) 1)).mem.get (st.next+2)=some (.cells (plRow (st.next+1)) 1):=SS.new_get (st:=((st.ro st.next).new (.cells Z12 0)).new (.cells Z12 0))
 have hz:wRow (upTo X 0)=Z12:=by rw [ztf,zsZ]
 obtain ⟨s',f1,f2,f3,f4⟩:=zuz X hX (st.next+1) (st.next+2) st.next (st.ro st.next) hg.ro (by omega) (by omega) (by simp) 12 0 _ rfl (x1.trans (x2.trans x3)) hpl (by simp) (by rw [hz];exact a2.ext x3) (a1.ext x3)
 have h0:X/2^za4 0=X:=by rw [show za4 0=0 from rfl,Nat.pow_zero,Nat.div_one]
 rw [h0] at f2
 have f2':zc4 3 [.int .u64 X,ptr st.next 0,ptr (st.next+1) 0,.slice (some ⟨(((st.ro st.next).new (.cells Z12 0)).new (.cells Z12 0)).next,0,none⟩) 12 12,.int .i64 12,.int .i64 0] ((((st.ro st.next).new (.cells Z12 0)).new (.cells Z12 0)).new (.cells (plRow (st.next+1)) 1))=_:=f2
 have hl:(zcg X).length=12:=zjG X 12
 have l9:s'.ldN (st.next+1) 0 12=some (wV (zcg X)):=f3.ldN (by rw [za6,hl])
 obtain ⟨s11,e11,a11,m11⟩:=At.setW f4 rfl (zcg X) hl
 have r13:s11.rdN st.next 0 12=some (wV (zcg X)):=a11.rdN (by rw [za6,hl])
 have hle:(lenV (.slice (some ⟨(((st.ro st.next).new (.cells Z12 0)).new (.cells Z12 0)).next,0,none⟩) 12 12)).bind (asI .i64)=some 12:=rfl
 refine ⟨s11.next,by have:=f1.next;have:=m11.next;simp at*;omega,zmU _ st ?_⟩
 simp only [zku,SS.ro_next,hn1,c3,zob,hle]
 rw [f2',zob]
 simp only [zgs,zgz,zob,zad,l9,e11,r13,flatV,zct]
theorem zuA {w:Wd} (h:zii w) {X:Nat} (hX:zfz w=X):zcg X=w∧X<2^64:=by
 have key:∀ (m k:Nat),12=m+k→∃ Y:Nat,zd8 (zcz.drop (12-m)) (w.drop (12-m))=Y:=fun m k h'=>by
  obtain ⟨Y,h1,_⟩:=zkS h.1 h.2 m (12-m) (by omega)
  exact ⟨Y,h1⟩
 have hall:∀ k,k≤12→zd8 (zcz.drop k) (w.drop k)=((X/2^za4 k:Nat):Int):=by
  intro k
  induction k with
  | zero=>intro _;rw [show za4 0=0 from rfl,Nat.pow_zero,Nat.div_one];exact hX
  | succ k ih=>
    intro hk
    have h1:=ih (by omega)
    rw [zjF h.1 (by omega)] at h1
    obtain ⟨Y,hY,_⟩:=zkS h.1 h.2 (12-(k+1)) (k+1) (by omega)
    obtain ⟨p,hp,hpl⟩:=zjz h.2 (k:=k) (by omega)
    rw [hY] at h1 ⊢
    rw [hp] at h1
    have h2:p+2^zat k*Y=X/2^za4 k:=by
     have:((p+2^zat k*Y:Nat):Int)=((X/2^za4 k:Nat):Int):=by rw [← h1];push_cast;rfl
     omega
    have h3:X/2^za4 (k+1)=Y:=by
     rw [zkz (by omega),Nat.pow_add,← Nat.div_div_eq_div_mul,← h2,Nat.add_comm,Nat.mul_add_div (Nat.two_pow_pos _),Nat.div_eq_of_lt hpl,Nat.add_zero]
    rw [h3]
 obtain ⟨Y,hY,hYl⟩:=zkS h.1 h.2 12 0 rfl
 have hXY:X=Y:=by
  have h1:zfz w=(Y:Int):=hY
  omega
 have ht:zgW 0≤64:=(zm8 (k:=0) (by omega)).2
 refine ⟨?_,by rw [hXY];exact zll hYl (Nat.pow_le_pow_right (by omega) ht)⟩
 apply List.ext_getElem
 ·rw [zcg,zjG,h.1]
 ·intro k a b
  have hk:k<12:=by rw [h.1] at b;exact b
  simp only [zcg,upTo,List.getElem_map,List.getElem_range,if_pos hk]
  have h1:=hall k (by omega)
  rw [zjF h.1 hk] at h1
  obtain ⟨Z,hZ,_⟩:=zkS h.1 h.2 (12-(k+1)) (k+1) (by omega)
  obtain ⟨p,hp,hpl⟩:=zjz h.2 hk
  rw [hZ,hp] at h1
  have h2:p+2^zat k*Z=X/2^za4 k:=by
   have:((p+2^zat k*Z:Nat):Int)=((X/2^za4 k:Nat):Int):=by rw [← h1];push_cast;rfl
   omega
  have h3:zaF X k=p:=by
   unfold zaF
   rw [← h2,Nat.add_mul_mod_self_left,Nat.mod_eq_of_lt hpl]
  have h4:w[k]=w.getD k 0:=by rw [List.getD_eq_getElem?_getD,zge b];rfl
  rw [h3,h4,hp]
theorem zor {w:Wd} (h:zii w):∃ X:Nat,zfz w=X:=by
 obtain ⟨Y,hY,_⟩:=zkS h.1 h.2 12 0 rfl
 exact ⟨Y,hY⟩
end Go.Proofs.YtifploedaacedaaGreatDoorE
namespace Go.Proofs.YtifploedaacedaaGreatDoorE.Uw
abbrev W:=List UInt8
def wA:W:=[32]
def wj:W:=[49]
def yR:W:=[61]
def ww:W:=[100]
def wl:W:=[114]
def jG:W:=ww++yR
def ym:W:=wA++jG
def uG:W:=ym++wl
def wM:W:=uG++wj
def qf:W:=wj++wM
end Go.Proofs.YtifploedaacedaaGreatDoorE.Uw
namespace Go.Proofs.YtifploedaacedaaGreatDoorE
open Uw
end Go.Proofs.YtifploedaacedaaGreatDoorE
namespace Go.Proofs.YtifploedaacedaaGreatDoorE
open Go Go.E Go.Proofs
def strRow (l:List UInt8):List Value:=[.string (mkS l)]
theorem zvx {st:SS} {row:List Value} {n:Nat} (h:row.length=n) (h0:0<n):Own st.next (st.new (.cells row 1)) (.slice (some ⟨st.next,0,none⟩) n n) row 1 n:=
 ⟨by omega,.inr ⟨st.next,rfl,h0,SS.new_get,zlr _,by simp⟩⟩
end Go.Proofs.YtifploedaacedaaGreatDoorE
namespace Go.Proofs.YtifploedaacedaaGreatDoorE
open Go Go.E Go.Proofs
noncomputable def zhw:List (Nat×AObj):=[(6,.table [.chan (some 6)]),(7,.table [.chan (some 7)]),(0,.table fieldsC),(2,.table asciiC)]
noncomputable def st0:SS:=⟨ze2 zhw,12,12⟩
theorem gd0:Gd st0:=⟨by simp [st0,ze2,zhw,PT.get_upd],by simp [st0,ze2,zhw,PT.get_upd],by simp [st0,ze2,zhw,PT.get_upd],by simp [st0,ze2,zhw,PT.get_upd],zlr _⟩
theorem globIn:∀ g,Lk0.glob g=true→g∈zhw.map (·.1):=fun g h=>by
 have h':(Nat.beq g 6||Nat.beq g 7||Nat.beq g 0||Nat.beq g 2)=true:=h
 simp only [Bool.or_eq_true,zav,decide_eq_true_eq] at h'
 rcases h' with ((rfl | rfl) | rfl) | rfl<;>simp [zhw]
theorem tabLt:∀ x∈zhw,x.1<12:=fun x hx=>by
 simp only [zhw,List.mem_cons,List.not_mem_nil,or_false] at hx
 rcases hx with rfl | rfl | rfl | rfl<;>decide
abbrev symE (a4:TypeId) (u4:Value) (a5:TypeId) (u5:Value):Sym where
 v i:=if i=6 then .iface a4 u4 else .iface a5 u5
 ok i:=by
  refine .inr (.inr ?_)
  split<;>exact ⟨_,_,rfl⟩
abbrev laidF:DataW Unit:=.agg ((zbW.map fun m=>(m.1,(m.2:Int))).map fun m=>.agg [.lit (.string m.1),.lit (.int .i64 m.2)])
abbrev laidS:DataW Unit:=.agg (Lib.asciiSpaceTab.map fun m=>.lit (.int .u8 m))
theorem law_at {f:Nat} {fn:Func} (hf:Lk0.func f=some (f,fn)) {W:World} {laid:List (String×DataW Unit)} (h:laidMet Tryz.prog laid W) (h4:∃ nm d,("strconv.ErrSyntax",DataW.iface nm d)∈laid) (h5:∃ nm d,("strconv.ErrRange",DataW.iface nm d)∈laid)
  (hF:("camshaft/uword.fields",laidF)∈laid) (hS:("strings.asciiSpace",laidS)∈laid)
  {args:List Value} (hargs:∀ x∈args,flat3 x=true) (hlaw:∀ [Sym],∃ st',cc f args st0=some (.bool true,st')):
  Calls Tryz.prog f args.toArray W fun e W'=>e=.returned (.bool true)∧RowKit.Below W.heap.size W W':=by
 obtain ⟨nm4,d4,m4⟩:=h4
 obtain ⟨nm5,d5,m5⟩:=h5
 obtain ⟨a4,u4,c4⟩:=zmH h m4 (g:=6) (t:=208) (by kernel_rfl) (by kernel_rfl) Tryz.underlying208
 obtain ⟨a5,u5,c5⟩:=zmH h m5 (g:=7) (t:=208) (by kernel_rfl) (by kernel_rfl) Tryz.underlying208
 letI:Sym:=symE a4 u4 a5 u5
 have hE:ErrSym:=⟨⟨a4,u4,rfl⟩,⟨a5,u5,rfl⟩⟩
 obtain ⟨oF,f1,f2⟩:=zqU h hF (g:=0) (kk:=.i64) (by kernel_rfl) (by kernel_rfl) Tryz.underlying128 Tryz.underlying127 (by kernel_rfl) rfl rfl rfl Tryz.underlying9 Tryz.underlying3 rfl rfl (by kernel_rfl) (by kernel_rfl) _ (by simp [zbW]) rfl
 obtain ⟨oS,s1,s2⟩:=zr4 h hS (g:=2) (kk:=.u8) (by kernel_rfl) (by kernel_rfl) Tryz.underlying233 Tryz.underlying5 (by kernel_rfl) _ rfl
 obtain ⟨st',hl⟩:=hlaw
 refine law_cS zai (zuX hE) hf (l:=zhw) (nx:=12) hl rfl hargs (fun x hx=>?_) globIn tabLt
 simp only [zhw,List.mem_cons,List.not_mem_nil,or_false] at hx
 rcases hx with rfl | rfl | rfl | rfl
 ·exact zsn (i:=6) c4
 ·exact zsn (i:=7) c5
 ·exact ⟨oF,f1,f2 _⟩
 ·exact ⟨oS,s1,s2 _⟩
end Go.Proofs.YtifploedaacedaaGreatDoorE
namespace Go.Proofs.YtifploedaacedaaGreatDoorE
open Go Go.E Go.Proofs
def uRow (X:Nat):List Value:=[.int .u64 (X:Int)]
theorem zuB (X:Nat):(uRow X).length=1:=rfl
def zcP (X:Nat):List Value:=wRow (zcg X)
theorem zvy (X:Nat):(zcg X).length=12:=zjG X 12
theorem zcC (X:Nat):(zcP X).length=12:=by unfold zcP;rw [za6,zvy]
theorem znO (X:Nat) {k:Nat} (hk:k<12):(zcg X)[k]?=some ((zaF X k:Nat):Int):=by
 unfold zcg upTo
 rw [List.getElem?_map,List.getElem?_range hk,Option.map_some,if_pos hk]
theorem zpH (X k:Nat):zaF X k<2048:=by
 unfold zaF
 have h1:X/2^za4 k%2^zat k<2^zat k:=Nat.mod_lt _ (Nat.two_pow_pos _)
 have h2:2^zat k≤2^11:=Nat.pow_le_pow_right (by omega) (zgl k)
 omega
def zgw (X i:Nat):List (Int×Int):=zcr ((zaF X 8:Nat):Int) ((zaF X 10:Nat):Int) (i:Int)
def okW (N X i:Nat):Bool:=(zgw X i).all fun p=>!decide ((N:Int)<p.1+p.2)
def ziI (ws:List Nat):Bool:=(List.range ws.length).all fun i=>match ws[i]? with
 | none=>true
 | some X=>okW ws.length X i
def zdo:List (List UInt8):=[[102,101,116,99,104],[111,112,101,114,97,110,100],[98,114,97,110,99,104],[102,97,117,108,116],[105,110,116,101,114,114,117,112,116]]
def zjH (es:List En):List (List UInt8)→Option (List Int)
 | []=>some []
 | n::r=>match zgV es n with
   | none=>none
   | some x=>match zjH es r with
     | none=>none
     | some xs=>some (x::xs)
def newT (ws:List Nat) (es:List En):Option (List Int):=cond (zij ws.length es&&ziI ws) (zjH es zdo) none
theorem zth {X i:Nat} (hi:i≤1099511627776):∀ p∈zgw X i,0≤p.1∧p.1≤1099511627777∧0≤p.2∧p.2≤64:=by
 intro p hp
 have h10:=zpH X 10
 unfold zgw zcr at hp
 repeat' split at hp
 all_goals
  simp only [List.mem_cons,List.not_mem_nil,or_false] at hp
  try (rcases hp with rfl | rfl<;>simp only<;>omega)
  try (subst hp;simp only;omega)
theorem zvz (X i:Nat):(zgw X i).length≤2:=by
 unfold zgw zcr
 repeat' split
 all_goals simp
theorem zti (p:Int×Int):(zcy p).length=2:=rfl
theorem ztj (X:Nat):zaQ (wV (zcg X)) 12=some (zcP X):=zjb (zcC X)
def RchR (base:SS) (N:Nat) (ps:List (Int×Int)) (ok bad:List Value) (res:Option (Nat×List Value×SS)):Prop:=
 ∃ s',Ext base s'∧res=some (cond (ps.all fun p=>!decide ((N:Int)<p.1+p.2)) (0,ok,s') (1,bad,s'))
section
variable {r b q : Nat} {wv ev v7 : Value} {t21 i : Int} {N : Nat} {base : SS}
theorem unew9 [Sym] (ps:List (Int×Int)) (hsz:ps.length≤100) (hb:∀ p∈ps,0≤p.1∧p.1≤1099511627777∧0≤p.2∧p.2≤64) (hll:base.lim≤base.next) (hr:base.ld r 0=some wv) (hlt:r<base.next) (hN:(lenV wv).bind (asI .i64)=some (N:Int)) (hv:Rg base v7 (rowsF zcy ps) 2 ps.length) (t20:Value):∀ (k j:Nat) (s:SS),ps.length=k+j→Ext base s→
  RchR base N (ps.drop j) [ptr r 0,ptr b 0,ptr q 0,t20,.int .i64 t21,.int .i64 i] [.pointer none,.int .i64 4] (zaJ 9 [ptr r 0,ptr b 0,ptr q 0,t20,.int .i64 t21,.int .i64 i,v7,.int .i64 ps.length,.int .i64 j] s):=by
 intro k
 induction k with
 | zero=>
   intro j s hk he
   have h:¬ (j:Int)<(ps.length:Int):=by omega
   rw [List.drop_of_length_le (by omega)]
   refine ⟨s,he,zfX _ _ _ _ _ _ _ _ _ s ?_⟩
   simp only [zga,zdf h,zcf]
   rfl
 | succ k ih=>
   intro j s hk he
   have h:(j:Int)<(ps.length:Int):=by omega
   obtain ⟨p,hg⟩:∃ p,ps[j]?=some p:=⟨_,zge (by omega)⟩
   obtain ⟨h1,h2,h3,h4⟩:=hb p (zmg hg)
   obtain ⟨p1,b1,b2,_⟩:=(hv.ext he).load (j:=(j:Int)) (by omega) h (za8 zti ps j p hg) rfl
   have b2':s.ldN p1.1 p1.2 2=some (.agg (zcy p).toArray):=b2
   obtain ⟨s4,e4,a4,x4,n4⟩:=za1 (n:=2) (st:=s) (he.ll hll) (r:=zcy (0,0)) (row:=zcy p) (v:=.agg (zcy p).toArray) (zaB _) rfl rfl rfl
   have e4':(s.new (.cells [.int .i64 0,.int .i64 0] 0)).stV s.next 0 2 (.agg (zcy p).toArray)=some s4:=e4
   have he4:=he.trans x4
   have y5:zaM (ptr s.next 0) 2 0 1=some (s.next,0):=rfl
   have y7:zaM (ptr s.next 0) 2 1 1=some (s.next,1):=rfl
   have l6:s4.ld s.next 0=some (.int .i64 p.1):=a4.ld
   have l8:s4.ld s.next 1=some (.int .i64 p.2):=a4.ld
   have w9:IntKind.wrap .i64 (p.1+p.2)=p.1+p.2:=wrap64 (by omega) (by omega)
   have l11:s4.ld r 0=some wv:=(zgp he4 hlt).trans hr
   have hw1:=zaX (i:=j) (by omega)
   rw [drop_cons hg]
   by_cases hq:(N:Int)<p.1+p.2
   ·refine ⟨s4,he4,zfX _ _ _ _ _ _ _ _ _ s ?_⟩
    simp only [zga,zdt h,zct,b1,b2',e4',zob,y5,y7,l6,l8,zaa,w9,zad,l11,hN,zdt hq,List.all_cons,znt,Bool.false_and,zcf]
   ·obtain ⟨s',f1,f2⟩:=ih (j+1) s4 (by omega) he4
    refine ⟨s',f1,zfX _ _ _ _ _ _ _ _ _ s ?_⟩
    simp only [zga,zdt h,zct,b1,b2',e4',zob,y5,y7,l6,l8,zaa,w9,zad,l11,hN,zdf hq,zcf,List.all_cons,znf,Bool.true_and,hw1]
    exact f2
end
def GrowR (base:SS) (b:Nat) (tl:List Value) (ws:List Nat) (all:Bool) (ok bad:List Value) (res:Option (Nat×List Value×SS)):Prop:=
 match all with
 | false=>∃ s',Ext base s'∧res=some (1,bad,s')
 | true=>∃ s' v',Ext base s'∧res=some (0,ok,s')∧At s' b (v'::tl)∧Own (b+1) s' v' (rowsF zcP ws) 12 ws.length
def zc7 (ws:List Nat) (i:Nat):Bool:=(List.range ws.length).all fun j=>Nat.blt j i||match ws[j]? with
 | none=>true
 | some X=>okW ws.length X j
theorem znP (ws:List Nat):zc7 ws 0=ziI ws:=by
 unfold zc7 ziI
 have:∀ j,Nat.blt j 0=false:=fun j=>by rw [Bool.eq_false_iff];intro h;rw [Nat.blt_eq] at h;omega
 simp only [this,Bool.false_or]
theorem zoO {ws:List Nat} {i:Nat} (h:ws.length≤i):zc7 ws i=true:=by
 unfold zc7
 rw [List.all_eq_true]
 intro j hj
 have:Nat.blt j i=true:=by rw [Nat.blt_eq];have:=List.mem_range.1 hj;omega
 rw [this,Bool.true_or]
theorem znQ {ws:List Nat} {i X:Nat} (h:ws[i]?=some X):zc7 ws i=(okW ws.length X i&&zc7 ws (i+1)):=by
 have hi:i<ws.length:=(List.getElem?_eq_some_iff.1 h).1
 rw [Bool.eq_iff_iff,zae]
 unfold zc7
 rw [List.all_eq_true,List.all_eq_true]
 constructor
 ·intro g
  refine ⟨?_,fun j hj=>?_⟩
  ·have:=g i (List.mem_range.2 hi)
   have hb:Nat.blt i i=false:=by rw [Bool.eq_false_iff];intro h;rw [Nat.blt_eq] at h;omega
   rw [hb,Bool.false_or,h] at this
   exact this
  ·have:=g j hj
   rw [Bool.or_eq_true] at this ⊢
   rcases this with h1 | h1
   ·left;rw [Nat.blt_eq] at h1 ⊢;omega
   ·exact .inr h1
 ·rintro ⟨g0,g⟩ j hj
  have:=g j hj
  rw [Bool.or_eq_true] at this ⊢
  rcases this with h1 | h1
  ·rw [Nat.blt_eq] at h1
   by_cases e:j=i
   ·subst e;right;rw [h];exact g0
   ·left;rw [Nat.blt_eq];omega
  ·exact .inr h1
theorem zrK (X:Nat):(zcg X)[8]?=some ((zaF X 8:Nat):Int):=znO X (by omega)
theorem zqg (X:Nat):(zcg X)[10]?=some ((zaF X 10:Nat):Int):=znO X (by omega)
theorem unew5 [Sym] {r b:Nat} {wv ev:Value} {tl:List Value} {ws:List Nat} {base:SS} (hg:Gd base) (hb:base.next=b) (hll:base.lim≤base.next) (hsz:ws.length≤2048) (hX:∀ X∈ws,X<2^64) (hr:base.ld r 0=some wv) (hlt:r<base.next) (hv:Rg base wv (rowsF uRow ws) 1 ws.length):∀ (k i:Nat) (s:SS) (v:Value),ws.length=k+i→Ext base s→At s b (v::tl)→Own (b+1) s v (rowsF zcP (ws.take i)) 12 i→
  GrowR base b tl ws (zc7 ws i) [ptr r 0,ptr b 0] [.pointer none,.int .i64 4] (zaJ 5 [ptr r 0,ptr b 0,wv,.int .i64 ws.length,.int .i64 i] s):=by
 intro k
 induction k with
 | zero=>
   intro i s v hk he ha ho
   have h:¬ (i:Int)<(ws.length:Int):=by omega
   have hi:i=ws.length:=by omega
   rw [List.take_of_length_le (by omega),hi] at ho
   rw [zoO (by omega)]
   refine ⟨s,v,he,zfW _ _ _ _ _ s ?_,ha,ho⟩
   simp only [zf9,zdf h,zcf]
 | succ k ih=>
   intro i s v hk he ha ho
   have h:(i:Int)<(ws.length:Int):=by omega
   obtain ⟨X,hgx⟩:∃ X,ws[i]?=some X:=⟨_,zge (by omega)⟩
   obtain ⟨p1,b1,_,b3⟩:=(hv.ext he).load (j:=(i:Int)) (by omega) h (za8 zuB ws i X hgx) rfl
   have b3':s.ld p1.1 p1.2=some (.int .u64 (X:Int)):=b3 0 _ rfl
   obtain ⟨n3,hn3,c3⟩:=ztg X (hX X (zmg hgx)) s (hg.ext he)
   have x3:=Ext.advR s hn3
   have he3:=he.trans x3
   obtain ⟨s5,e5,a5,x5,n5⟩:=za1 (n:=12) (st:=s.adv n3) (he3.ll hll) (r:=Z12) (row:=zcP X) (v:=wV (zcg X)) (zaB _) (zcC X) (zdG _) rfl
   have he5:=he3.trans x5
   have l6:s5.ldN n3 0 12=some (wV (zcg X)):=a5.ldN (zcC X)
   obtain ⟨v7,s7,c7,x7,o7⟩:=zpr (zcg X) (i:Int) _ _ (zrK X) (zqg X) (by omega) (by omega) s5 (he5.ll hll)
   have he7:=he5.trans x7
   have o7':Rg s7 v7 (rowsF zcy (zgw X i)) 2 (zgw X i).length:=o7.rg
   have q8:=o7'.lenI
   obtain ⟨s9,x9,f9⟩:=unew9 (r:=r) (b:=b) (q:=n3) (wv:=wv) (v7:=v7) (t21:=ws.length) (i:=i) (N:=ws.length) (zgw X i) (by have:=zvz X i;omega) (zth (by omega)) (he7.ll hll) ((zgp he7 hlt).trans hr) (zll hlt he7.next) hv.lenI o7' wv (zgw X i).length 0 s7 rfl (Ext.refl _)
   rw [List.drop_zero] at f9
   have f9':zaJ 9 [ptr r 0,ptr b 0,ptr n3 0,wv,.int .i64 ws.length,.int .i64 i,v7,.int .i64 (zgw X i).length,.int .i64 0] s7=_:=f9
   have he9:=he7.trans x9
   have hs9:Ext s s9:=((x3.trans x5).trans x7).trans x9
   rw [znQ hgx]
   cases hok:okW ws.length X i with
   | false=>
     have hok':((zgw X i).all fun p=>!decide ((ws.length:Int)<p.1+p.2))=false:=hok
     rw [hok',zcf] at f9'
     have b0:Nat.beq 1 0=false:=rfl
     refine ⟨s9,he9,zfW _ _ _ _ _ s ?_⟩
     unfold zf9
     simp only [zdt h,zct]
     refine zbi.2 ⟨_,b1,?_⟩
     simp only [b3',zob]
     refine zbi.2 ⟨_,rfl,?_⟩
     refine zbi.2 ⟨_,c3,?_⟩
     refine zbi.2 ⟨_,e5,?_⟩
     refine zbi.2 ⟨_,l6,?_⟩
     refine zbi.2 ⟨_,c7,?_⟩
     refine zbi.2 ⟨_,q8,?_⟩
     refine zbi.2 ⟨_,f9',?_⟩
     simp only [b0,zcf,zgz,zgs,zob,zaa]
   | true=>
     have hok':((zgw X i).all fun p=>!decide ((ws.length:Int)<p.1+p.2))=true:=hok
     rw [hok',zct] at f9'
     have b0:Nat.beq 0 0=true:=rfl
     have a9:=ha.ext hs9
     have o9:=ho.ext hs9
     have l18:s9.ld b 0=some v:=a9.ld
     have l20:s9.ldN n3 0 12=some (wV (zcg X)):=(a5.ext (x7.trans x9)).ldN (zcC X)
     have hbn:b+1≤s9.next:=a9.lt
     obtain ⟨v',s',g1,g2,g3,g4,g5⟩:=o9.pushM (row:=zcP X) (bt:=96) hbn (by rw [he9.lim];omega) (zcC X) (by omega) (zdG _) (by omega) (by omega)
     have ha':At s' b (v::tl):=⟨(g5 b (by omega)).trans a9.1,by omega,by rw [g3];exact a9.2.2⟩
     have hcv:=g2.cell
     obtain ⟨s2,e2,a2,m2,n2⟩:=ha'.set1V (k:=0) (x:=v') hcv.1 (by simp) hcv.2
     have xs':Ext base s':=⟨zlt he9.next g4,g3.trans he9.lim,fun j hj=>(g5 j (by omega)).trans (he9.keep j hj)⟩
     have xs2:Ext base s2:=((Mod.ofExt (S:=[]) xs').thenI m2 (.inl (by omega))).toExt
     have o2:Own (b+1) s2 v' (rowsF zcP (ws.take (i+1))) 12 (i+1):=by
      have:ws.take (i+1)=ws.take i++[X]:=by rw [List.take_add_one,hgx];rfl
      rw [this,zbQ,zcX]
      exact g2.modLt m2 (by simp)
     have hres:=ih (i+1) s2 v' (by omega) xs2 a2 o2
     have hw1:=zaX (i:=i) (by omega)
     have step:∀ rr,zaJ 5 [ptr r 0,ptr b 0,wv,.int .i64 ws.length,.int .i64 (i+1:Nat)] s2=some rr→zaJ 5 [ptr r 0,ptr b 0,wv,.int .i64 ws.length,.int .i64 i] s=some rr:=by
      intro rr hrr
      refine zfW _ _ _ _ _ s ?_
      unfold zf9
      simp only [zdt h,zct]
      refine zbi.2 ⟨_,b1,?_⟩
      simp only [b3',zob]
      refine zbi.2 ⟨_,rfl,?_⟩
      refine zbi.2 ⟨_,c3,?_⟩
      refine zbi.2 ⟨_,e5,?_⟩
      refine zbi.2 ⟨_,l6,?_⟩
      refine zbi.2 ⟨_,c7,?_⟩
      refine zbi.2 ⟨_,q8,?_⟩
      refine zbi.2 ⟨_,f9',?_⟩
      have hnl:zam (ptr b 0)=some (ptr b 0):=rfl
      simp only [b0,zct,zgz,zgs,zob,zaa,hnl,zad,l18,l20,ztj,List.append_nil,g1,e2,hw1]
      exact hrr
     rw [Bool.true_and]
     unfold GrowR at hres ⊢
     cases hwf:zc7 ws (i+1) with
     | false=>
       rw [hwf] at hres
       obtain ⟨s',y1,y2⟩:=hres
       exact ⟨s',y1,step _ y2⟩
     | true=>
       rw [hwf] at hres
       obtain ⟨s',v',y1,y2,y3⟩:=hres
       exact ⟨s',v',y1,step _ y2,y3⟩
end Go.Proofs.YtifploedaacedaaGreatDoorE
namespace Go.Proofs.YtifploedaacedaaGreatDoorE
open Go Go.E Go.Proofs
abbrev zaR:Value:=.slice none 0 0
theorem zrL (x:List UInt8):(strRow x).length=1:=rfl
def zbV (v:Value) (E:List Int) (pc:Int) (k:Value):List Value:=v::(E.map (Value.int .i64)++[.int .i64 pc,k])
theorem sq_set {v:Value} {E:List Int} {pc:Int} {k:Value} (hE:E.length=5) {i:Nat} (hi:i<5) (x:Int):(zbV v E pc k).set (0+1+i*1) (.int .i64 x)=zbV v (E.set i x) pc k:=by
 match E,hE with
 | [a,b,c,d,e],_=>match i,hi with
   | 0,_=>rfl
   | 1,_=>rfl
   | 2,_=>rfl
   | 3,_=>rfl
   | 4,_=>rfl
theorem ztk {v:Value} {E:List Int} {pc:Int} {k:Value} (hE:E.length=5) {i:Nat} (hi:i<5):(zbV v E pc k)[0+1+i*1]?=some (.int .i64 (E.getD i 0)):=by
 match E,hE with
 | [a,b,c,d,e],_=>match i,hi with
   | 0,_=>rfl
   | 1,_=>rfl
   | 2,_=>rfl
   | 3,_=>rfl
   | 4,_=>rfl
theorem zfC {v:Value} {E:List Int} {pc:Int} {k:Value} (hE:E.length=5):(zbV v E pc k)[0+6]?=some (.int .i64 pc)∧(zbV v E pc k)[0+7]?=some k∧(zbV v E pc k).length=8∧(∀ x,(zbV v E pc k).set (0+6) (.int .i64 x)=zbV v E x k)∧∀ x,(zbV v E pc k).set (0+7) x=zbV v E pc x:=by
 match E,hE with
 | [a,b,c,d,e],_=>exact ⟨rfl,rfl,rfl,fun _=>rfl,fun _=>rfl⟩
theorem zm9 {b i:Nat} (hi:i<5):zaM (ptr b (0+1)) 5 (i:Int) 1=some (b,0+1+i*1):=by
 match i,hi with
 | 0,_=>rfl
 | 1,_=>rfl
 | 2,_=>rfl
 | 3,_=>rfl
 | 4,_=>rfl
theorem tup0 (a b:Value):zao (.tuple #[a,b]) 0=some a:=rfl
theorem tup1 (a b:Value):zao (.tuple #[a,b]) 1=some b:=rfl
theorem ztl {v:Value} {st:SS} (h:Rg st v (rowsF strRow zdo) 1 5) {i:Nat} {n:List UInt8} (hn:zdo[i]?=some n):∃ p,zax v (i:Int) 1=some p∧st.ld p.1 p.2=some (.string (mkS n)):=by
 have hi:i<5:=(List.getElem?_eq_some_iff.1 hn).1
 obtain ⟨p,h1,_,h3⟩:=h.load (j:=(i:Int)) (by omega) (by omega) (za8 zrL zdo i n hn) rfl
 exact ⟨p,h1,h3 0 _ rfl⟩
theorem zuC:zdo.length=5:=rfl
theorem unew17 [Sym] {r b:Nat} {wv ev v v58:Value} {ws:List Nat} {es:List En} {base:SS} (hb:base.next=b) (hll:base.lim≤base.next) (hsz:es.length≤255) (hr:base.ldN r 0 2=some (zcT wv ev)) (hlt:r<base.next) (hev:Rg base ev (rowsF zaZ es) 2 es.length) {base2:SS} (h58:Rg base2 v58 (rowsF strRow zdo) 1 5) (h2b:Ext base base2) (hv58:∀ i l c,v58=.slice (some ⟨i,0,none⟩) l c→i≠b) (ho:Own (b+1) base2 v (rowsF zcP ws) 12 ws.length):∀ (k i:Nat) (pre:List Int) (s:SS),5=k+i→pre.length=i→Mod [b] base2 s→Ext base s→At s b (zbV v (pre++List.replicate k 0) 0 zaR)→
  (match zjH es (zdo.drop i) with
  | none=>∃ s',Ext base s'∧zaJ 17 [ptr r 0,ptr b 0,v58,.int .i64 5,.int .i64 i] s=some (1,[.pointer none,.int .i64 4],s')
  | some xs=>∃ s',Ext base s'∧zaJ 17 [ptr r 0,ptr b 0,v58,.int .i64 5,.int .i64 i] s=some (0,[ptr b 0],s')∧At s' b (zbV v (pre++xs) 0 zaR)∧Own (b+1) s' v (rowsF zcP ws) 12 ws.length):=by
 intro k
 induction k with
 | zero=>
   intro i pre s hk hp hm he ha
   have h:¬ (i:Int)<5:=by omega
   have hi:i=5:=by omega
   subst hi
   refine ⟨s,he,zfu _ _ _ _ _ s ?_,ha,ho.modLt hm (by simp)⟩
   simp only [zft,zdf h,zcf]
 | succ k ih=>
   intro i pre s hk hp hm he ha
   have h:(i:Int)<5:=by omega
   obtain ⟨n,hn⟩:∃ n,zdo[i]?=some n:=⟨_,zge (by rw [zuC];omega)⟩
   obtain ⟨p1,b1,b2⟩:=ztl (h58.mod hm (fun i l c e hi=>hv58 i l c e (by simpa using hi))) hn
   have l4:s.ldN r 0 2=some (zcT wv ev):=by
    have:s.ldN r 0 2=base.ldN r 0 2:=by unfold SS.ldN;rw [he.keep r hlt]
    rw [this,hr]
   obtain ⟨m,hm5,c5⟩:=find_ok (wv:=wv) (es:=es) (by omega) n (hev.ext he)
   have x5:=Ext.advR s hm5
   have he5:=he.trans x5
   have a5:=ha.ext x5
   rw [drop_cons hn]
   unfold zjH
   cases hq:zgV es n with
   | none=>
     rw [hq] at c5
     refine ⟨s.adv m,he5,zfu _ _ _ _ _ s ?_⟩
     simp only [zft,zdt h,zct,b1,zob,b2,zac,zad,l4,c5,tup0,tup1,zaa,zah,Option.isSome_none,znf]
   | some x=>
     rw [hq] at c5
     have hEl:(pre++List.replicate (k+1) (0:Int)).length=5:=by rw [List.length_append,List.length_replicate];omega
     obtain ⟨s2,e2,a2,m2,n2⟩:=a5.set1 (k:=0+1+i*1) (x:=.int .i64 x) (by rw [(zfC hEl).2.2.1];omega) rfl
     rw [sq_set hEl (by omega)] at a2
     have hset:(pre++List.replicate (k+1) (0:Int)).set i x=(pre++[x])++List.replicate k 0:=by
      rw [List.set_append_right _ _ (by omega),hp,Nat.sub_self,List.replicate_succ,List.set_cons_zero,List.append_assoc];rfl
     rw [hset] at a2
     have hm2:Mod [b] base2 s2:=((hm.thenX x5).then m2)
     have hx2:Ext base s2:=((Mod.ofExt (S:=[]) he5).thenI m2 (.inl (by omega))).toExt
     have hres:=ih (i+1) (pre++[x]) s2 (by omega) (by simp [hp]) hm2 hx2 a2
     have hw1:=zaX (i:=i) (by omega)
     have step:∀ rr,zaJ 17 [ptr r 0,ptr b 0,v58,.int .i64 5,.int .i64 (i+1:Nat)] s2=some rr→zaJ 17 [ptr r 0,ptr b 0,v58,.int .i64 5,.int .i64 i] s=some rr:=fun rr hrr=>by
      refine zfu _ _ _ _ _ s ?_
      simp only [zft,zdt h,zct,b1,zob,b2,zac,zad,l4,c5,tup0,tup1,zaa,zah,Option.isSome_some,znt,zcf,Option.getD_some,zaE,zm9 (show i<5 by omega),e2,hw1]
      exact hrr
     cases hq2:zjH es (zdo.drop (i+1)) with
     | none=>
       rw [hq2] at hres
       obtain ⟨s',y1,y2⟩:=hres
       exact ⟨s',y1,step _ y2⟩
     | some xs=>
       rw [hq2] at hres
       obtain ⟨s',y1,y2,y3,y4⟩:=hres
       rw [List.append_assoc] at y3
       exact ⟨s',y1,step _ y2,y3,y4⟩
theorem zma (es:List En):∀ (ns:List (List UInt8)) (xs:List Int),zjH es ns=some xs→xs.length=ns.length
 | [],xs,h=>by simp only [zjH,zsj] at h;subst h;rfl
 | n::r,xs,h=>by
   unfold zjH at h
   split at h
   ·cases h
   ·split at h
    ·cases h
    ·rename_i x _ ys hys
     cases h
     simp [zma es r ys hys]
theorem go_ok [Sym] {s:SS} {b:Nat} {v k:Value} {E:List Int} {pc:Int} (hE:E.length=5) (ha:At s b (zbV v E pc k)) {i:Nat} (hi:i<5):
  ∃ s',cc 41 [ptr b 0,.int .i64 i] s=some (.tuple #[],s')∧At s' b (zbV v E (E.getD i 0) zaR)∧Mod [b] s s'∧s'.next=s.next:=by
 have h0:(0:Int)≤(i:Int):=by omega
 have h5:(i:Int)<5:=by omega
 have l3:s.ld b (0+1+i*1)=some (.int .i64 (E.getD i 0)):=by rw [ha.ld,ztk hE hi]
 obtain ⟨s1,e1,a1,m1,n1⟩:=ha.set1 (k:=0+6) (x:=.int .i64 (E.getD i 0)) (by rw [(zfC hE).2.2.1];omega) rfl
 rw [(zfC hE).2.2.2.1] at a1
 obtain ⟨s2,e2,a2,m2,n2⟩:=a1.set1 (k:=0+7) (x:=zaR) (by rw [(zfC hE).2.2.1];omega) rfl
 rw [(zfC hE).2.2.2.2] at a2
 refine ⟨s2,znC _ _ s ?_,a2,m1.then m2,by omega⟩
 simp only [zlv,zdt h0,zdt h5,zct,zaE,zob,zad,zm9 hi,l3,zaa,e1,e2]
theorem zvA [Sym] {ws:List Nat} {es:List En} {wv ev:Value} {st:SS} (hg:Gd st) (hl:st.lim≤st.next) (hX:∀ X∈ws,X<2^64) (o1:Rg st wv (rowsF uRow ws) 1 ws.length) (o2:Rg st ev (rowsF zaZ es) 2 es.length):
  match newT ws es with
  | none=>∃ s',Ext st s'∧cc 37 [zcT wv ev] st=some (.tuple #[.pointer none,.int .i64 4],s')
  | some E=>E.length=5∧∃ s' b v,Ext st s'∧cc 37 [zcT wv ev] st=some (.tuple #[ptr b 0,.int .i64 0],s')∧st.next≤b∧At s' b (zbV v E (E.getD 0 0) zaR)∧Own (b+1) s' v (rowsF zcP ws) 12 ws.length:=by
 have hc:(zcT wv ev).cells.toList=[wv,ev]:=by show (Value.agg [wv,ev].toArray).cells.toList=_;exact zaB _
 have x1:Ext st (st.new (.cells [wv,ev] 0)):=(Ext.refl _).new _
 have a1:At (st.new (.cells [wv,ev] 0)) st.next [wv,ev]:=At.new hl _
 have hn1:(st.new (.cells [wv,ev] 0)).next=st.next+1:=rfl
 obtain ⟨s1,hs1⟩:∃ s1,st.new (.cells [wv,ev] 0)=s1:=⟨_,rfl⟩
 rw [hs1] at x1 a1 hn1
 have l2:s1.ldN st.next 0 2=some (zcT wv ev):=a1.ldN rfl
 obtain ⟨n3,hn3,c3⟩:=zrJ (o1.ext x1) (o2.ext x1)
 have x3:=Ext.advR s1 hn3
 have hx3:=x1.trans x3
 unfold newT
 cases hG:zij ws.length es with
 | false=>
   rw [hG] at c3
   refine ⟨s1.adv n3,hx3,zf8 _ st ?_⟩
   simp only [zhj,hc,hs1,l2,zob,c3,zah,znf,zct]
 | true=>
   rw [hG] at c3
   have hG':=hG
   unfold zij at hG'
   simp only [zae,Nat.ble_eq] at hG'
   obtain ⟨hw,hes,_⟩:=hG'
   have hlm:(s1.adv n3).lim≤(s1.adv n3).next:=hx3.ll hl
   have a5:At ((s1.adv n3).new (.cells (zbV zaR [0,0,0,0,0] 0 zaR) 0)) n3 (zbV zaR [0,0,0,0,0] 0 zaR):=At.new hlm _
   have x5:Ext (s1.adv n3) ((s1.adv n3).new (.cells (zbV zaR [0,0,0,0,0] 0 zaR) 0)):=(Ext.refl _).new _
   have l0:(s1.adv n3).ld st.next 0=some wv:=(a1.ext x3).ld
   have l6:((s1.adv n3).new (.cells (zbV zaR [0,0,0,0,0] 0 zaR) 0)).ld st.next 0=some wv:=((a1.ext x3).ext x5).ld
   have q7:=o1.lenI
   have hlt:st.next<(s1.adv n3).next:=by show st.next<n3;omega
   have f5:=unew5 (r:=st.next) (b:=n3) (wv:=wv) (ev:=ev) (tl:=[0,0,0,0,0].map (Value.int .i64)++[.int .i64 0,zaR]) (ws:=ws) (hg.ext hx3) rfl hlm hw hX l0 hlt (o1.ext hx3) ws.length 0 _ zaR rfl x5 a5 (Own.nil _ _ _)
   rw [znP] at f5
   cases hW:ziI ws with
   | false=>
     rw [hW] at f5
     obtain ⟨s8,x8,f8⟩:=f5
     have f8':zaJ 5 [ptr st.next 0,ptr n3 0,wv,.int .i64 ws.length,.int .i64 0] ((s1.adv n3).new (.cells (zbV zaR [0,0,0,0,0] 0 zaR) 0))=_:=f8
     have b0:Nat.beq 1 0=false:=rfl
     refine ⟨s8,hx3.trans x8,zf8 _ st ?_⟩
     simp only [zhj,hc,hs1,l2,zob,c3,zah,znt,zcf]
     refine zbi.2 ⟨_,l6,?_⟩
     refine zbi.2 ⟨_,q7,?_⟩
     refine zbi.2 ⟨_,f8',?_⟩
     simp only [b0,zcf,zgz,zgs,zob,zaa]
   | true=>
     rw [hW] at f5
     obtain ⟨s8,v,x8,f8,a8,o8⟩:=f5
     have f8':zaJ 5 [ptr st.next 0,ptr n3 0,wv,.int .i64 ws.length,.int .i64 0] ((s1.adv n3).new (.cells (zbV zaR [0,0,0,0,0] 0 zaR) 0))=_:=f8
     have b0:Nat.beq 0 0=true:=rfl
     have c11:cc 63 [] s8=some (.slice (some ⟨s8.next,0,none⟩) 5 5,s8.new (.cells (rowsF strRow zdo) 1)):=zoz s8 rfl
     have x11:Ext s8 (s8.new (.cells (rowsF strRow zdo) 1)):=(Ext.refl _).new _
     have g58:Rg (s8.new (.cells (rowsF strRow zdo) 1)) (.slice (some ⟨s8.next,0,none⟩) 5 5) (rowsF strRow zdo) 1 5:=(zvx (st:=s8) (row:=rowsF strRow zdo) (n:=5) rfl (by omega)).rg
     have q12:(lenV (.slice (some ⟨s8.next,0,none⟩) 5 5)).bind (asI .i64)=some 5:=rfl
     have hb8:n3<s8.next:=a8.lt
     have f13:=unew17 (r:=st.next) (b:=n3) (wv:=wv) (ev:=ev) (v:=v) (v58:=.slice (some ⟨s8.next,0,none⟩) 5 5) (ws:=ws) (es:=es) (base:=s1.adv n3) rfl hlm hes ((a1.ext x3).ldN rfl) hlt (o2.ext hx3) (base2:=s8.new (.cells (rowsF strRow zdo) 1)) g58 (x8.trans x11) (fun i l c e=>by cases e;omega) (o8.ext x11) 5 0 [] _ rfl rfl (Mod.refl _) (x8.trans x11) (a8.ext x11)
     rw [List.drop_zero] at f13
     have hnl:=zaE n3
     simp only [Bool.and_self,zct]
     cases hT:zjH es zdo with
     | none=>
       rw [hT] at f13
       obtain ⟨s13,x13,f13⟩:=f13
       have f13':zaJ 17 [ptr st.next 0,ptr n3 0,.slice (some ⟨s8.next,0,none⟩) 5 5,.int .i64 5,.int .i64 0] (s8.new (.cells (rowsF strRow zdo) 1))=_:=f13
       have b1:Nat.beq 1 0=false:=rfl
       refine ⟨s13,hx3.trans x13,zf8 _ st ?_⟩
       simp only [zhj,hc,hs1,l2,zob,c3,zah,znt,zcf]
       refine zbi.2 ⟨_,l6,?_⟩
       refine zbi.2 ⟨_,q7,?_⟩
       refine zbi.2 ⟨_,f8',?_⟩
       simp only [b0,zct,zgz,zgs,zob,c11,q12]
       refine zbi.2 ⟨_,f13',?_⟩
       simp only [b1,zcf,zgz,zgs,zob,zaa]
     | some E=>
       rw [hT] at f13
       obtain ⟨s13,x13,f13,a13,o13⟩:=f13
       have f13':zaJ 17 [ptr st.next 0,ptr n3 0,.slice (some ⟨s8.next,0,none⟩) 5 5,.int .i64 5,.int .i64 0] (s8.new (.cells (rowsF strRow zdo) 1))=_:=f13
       have hE:E.length=5:=zma es zdo E hT
       rw [List.nil_append] at a13
       obtain ⟨s15,c15,a15,m15,n15⟩:=go_ok hE a13 (i:=0) (by omega)
       have c15':cc 41 [ptr n3 0,.int .i64 0] s13=some (.tuple #[],s15):=c15
       refine ⟨hE,s15,n3,v,hx3.trans ((Mod.ofExt (S:=[]) x13).thenI m15 (.inl (zlr n3))).toExt,zf8 _ st ?_,by omega,a15,o13.modLt m15 (by simp)⟩
       simp only [zhj,hc,hs1,l2,zob,c3,zah,znt,zcf]
       refine zbi.2 ⟨_,l6,?_⟩
       refine zbi.2 ⟨_,q7,?_⟩
       refine zbi.2 ⟨_,f8',?_⟩
       simp only [b0,zct,zgz,zgs,zob,c11,q12]
       refine zbi.2 ⟨_,f13',?_⟩
       simp only [b0,zct,zgz,zob,c15']
end Go.Proofs.YtifploedaacedaaGreatDoorE
namespace Go.Proofs.YtifploedaacedaaGreatDoorE
open Go Go.E Go.Proofs
def Stk (B:Nat) (s:SS) (k:Value) (ca:List Int):Prop:=
 (k=zaR∧ca=[])∨∃ j o cap C,k=.slice (some ⟨j,o,none⟩) ca.length cap∧ca.length≤cap∧s.mem.get j=some (.cells C 1)∧o+cap≤C.length∧(C.drop o).take ca.length=ca.map (Value.int .i64)∧B≤j∧j<s.next
section
variable {B b : Nat} {s s' : SS} {k k' : Value} {ca : List Int}
theorem Stk.cell (h:Stk B s k ca):k.cells.toList=[k]∧one k=true:=by
 obtain ⟨rfl,_⟩ | ⟨j,o,cap,C,rfl,_⟩:=h<;>exact ⟨rfl,rfl⟩
theorem Stk.len (h:Stk B s k ca):(lenV k).bind (asI .i64)=some (ca.length:Int):=by
 obtain ⟨rfl,rfl⟩ | ⟨j,o,cap,C,rfl,_⟩:=h<;>rfl
theorem Stk.keep (h:Stk B s k ca) (hn:s.next≤s'.next) (hk:∀ i o l c,k=.slice (some ⟨i,o,none⟩) l c→B≤i→i<s.next→s'.mem.get i=s.mem.get i):Stk B s' k ca:=by
 refine h.imp (fun h=>h) ?_
 rintro ⟨j,o,cap,C,e,h1,h2,h3,h4,h5,h6⟩
 exact ⟨j,o,cap,C,e,h1,(hk j o _ _ e h5 h6).trans h2,h3,h4,h5,by omega⟩
theorem Stk.nil:Stk B s zaR []:=.inl ⟨rfl,rfl⟩
theorem Stk.push (h:Stk B s k ca) (hb:B≤s.next) (hl:s.lim≤B) (hn:ca.length≤1000) (a:Int):
  ∃ s',(s.new (.cells [.int .i64 a] 1)).app 1 8 k (.slice (some ⟨s.next,0,none⟩) 1 1)=some (.slice (some ⟨s.next+1,0,none⟩) (ca.length+1) (ca.length+1),s')∧s'.next=s.next+2∧s'.lim=s.lim∧s'.mem.get (s.next+1)=some (.cells ((ca++[a]).map (Value.int .i64)) 1)∧
   ∀ i,i<s.next→(∀ o l c,k≠.slice (some ⟨i,o,none⟩) l c)→s'.mem.get i=s.mem.get i:=by
 have hx:(s.new (.cells [.int .i64 a] 1)).first 1 1 (.slice (some ⟨s.next,0,none⟩) 1 1)=some [.int .i64 a]:=by
  unfold SS.first
  simp only [SS.new_get,zob]
  rfl
 have e1:zeZ (.slice (some ⟨s.next,0,none⟩) 1 1)=some 1:=rfl
 have m0:Nat.beq 1 0=false:=rfl
 obtain ⟨rfl,rfl⟩ | ⟨j,o,cap,C,rfl,h1,h2,h3,h4,h5,h6⟩:=h
 ·refine ⟨(s.new (.cells [.int .i64 a] 1)).new (.cells [.int .i64 a] 1),?_,rfl,rfl,?_,fun i hi _=>?_⟩
  ·unfold SS.app
   rw [e1]
   simp only [zob,m0,zcf]
   have q:(Nat.ble ((1+1)*8) (2^44)&&Nat.ble 1 (2^44))=true:=rfl
   rw [q,hx]
   rfl
  ·exact SS.new_get (st:=s.new (.cells [.int .i64 a] 1))
  ·rw [SS.new_old (by simp;omega),SS.new_old (by omega)]
 ·have hj:(s.new (.cells [.int .i64 a] 1)).mem.get j=some (.cells C 1):=by rw [SS.new_old (by omega)];exact h2
  have hcut:cut C o (ca.length*1)=some (ca.map (Value.int .i64)):=by
   rw [Nat.mul_one]
   exact zmG h4 (by simp)
  refine ⟨((s.new (.cells [.int .i64 a] 1)).set j none).new (.cells (ca.map (Value.int .i64)++[.int .i64 a]) 1),?_,rfl,rfl,?_,fun i hi hne=>?_⟩
  ·unfold SS.app
   rw [e1]
   simp only [zob,m0,zcf]
   have q:(Nat.ble ((ca.length+1+1)*8) (2^44)&&Nat.ble (ca.length+1) (2^44)&&Nat.ble (s.new (.cells [.int .i64 a] 1)).lim j)=true:=by
    simp only [zae,Nat.ble_eq]
    exact ⟨⟨by omega,by omega⟩,by show s.lim≤j;omega⟩
   have q2:(Nat.beq 1 1&&(Nat.blt cap (ca.length+1)||Nat.ble (o+cap*1) C.length))=true:=by
    have:Nat.ble (o+cap*1) C.length=true:=by rw [Nat.ble_eq];omega
    rw [this,Bool.or_true];rfl
   have q3:([.int .i64 a]:List Value).all one=true:=rfl
   rw [q]
   simp only [zct,hj,zob,q2,hcut,hx,q3]
   rfl
  ·have:(((s.new (.cells [.int .i64 a] 1)).set j none).new (.cells (ca.map (Value.int .i64)++[.int .i64 a]) 1)).mem.get ((s.new (.cells [.int .i64 a] 1)).set j none).next=_:=SS.new_get
   rw [List.map_append]
   exact this
  ·rw [SS.new_old (by simp;omega),SS.set_old (fun e=>hne o _ _ (by rw [e])),SS.new_old (by omega)]
theorem Stk.tail {a:Int} {r:List Int} (h:Stk B s k (a::r)) (hr:0<r.length):∃ k',s.resl k 1 1 ((r.length+1:Nat):Int)=some k'∧Stk B s k' r∧∃ j o l c o' l' c',k=.slice (some ⟨j,o,none⟩) l c∧k'=.slice (some ⟨j,o',none⟩) l' c':=by
 obtain ⟨_,h0⟩ | ⟨j,o,cap,C,rfl,h1,h2,h3,h4,h5,h6⟩:=h
 ·cases h0
 simp only [List.length_cons] at h1 h4
 have e1:decide ((1:Int)≤((r.length+1:Nat):Int))=true:=zdt (by omega)
 have e2:decide (((r.length+1:Nat):Int)≤(cap:Int))=true:=zdt (by omega)
 have e3:Nat.beq cap 1=false:=by rw [zav];exact zdf (by omega)
 refine ⟨.slice (some ⟨j,o+1,none⟩) r.length (cap-1),?_,.inr ⟨j,o+1,cap-1,C,rfl,by omega,h2,by omega,?_,h5,h6⟩,j,o,_,_,o+1,_,_,rfl,rfl⟩
 ·unfold SS.resl
  have e0:decide ((0:Int)≤1)=true:=rfl
  have q:(Nat.beq 1 1||Nat.beq 1 0)=true:=rfl
  simp only [List.length_cons,e0,e1,e2,Bool.and_self,zct,h2,zob,q,show (1:Int).toNat=1 from rfl,e3,zcf,Int.toNat_natCast,Nat.mul_one,Nat.add_sub_cancel]
 ·have h7:(C.drop o).take (r.length+1)=(Value.int .i64 a)::r.map (Value.int .i64):=h4
  have h8:C.drop (o+1)=(C.drop o).drop 1:=by rw [List.drop_drop]
  rw [h8,List.take_drop,Nat.add_comm 1 r.length,h7]
  rfl
theorem Stk.init {r:List Int} {a:Int} (h:Stk B s k (r++[a])):∃ p k',zax k (r.length:Int) 1=some p∧s.ld p.1 p.2=some (.int .i64 a)∧s.resl k 1 0 (r.length:Int)=some k'∧Stk B s k' r∧∃ j o l c o' l' c',k=.slice (some ⟨j,o,none⟩) l c∧k'=.slice (some ⟨j,o',none⟩) l' c':=by
 obtain ⟨_,h0⟩ | ⟨j,o,cap,C,rfl,h1,h2,h3,h4,h5,h6⟩:=h
 ·simp at h0
 simp only [List.length_append,List.length_singleton] at h1 h4
 have e0:zax (.slice (some ⟨j,o,none⟩) (r++[a]).length cap) (r.length:Int) 1=some (j,o+r.length*1):=by
  unfold zax
  have g1:(0:Int)≤(r.length:Int):=by omega
  have g2:(r.length:Int)<((r++[a]).length:Int):=by rw [List.length_append,List.length_singleton];omega
  simp only [zdt g1,zdt g2,Bool.and_self,zct,Int.toNat_natCast]
 have hget:C[o+r.length*1]?=some (.int .i64 a):=by
  have h7:((C.drop o).take (r.length+1))[r.length]?=some (.int .i64 a):=by rw [h4];simp
  rw [List.getElem?_take,if_pos (by omega),List.getElem?_drop] at h7
  rw [Nat.mul_one];exact h7
 refine ⟨_,.slice (some ⟨j,o,none⟩) r.length cap,e0,?_,?_,.inr ⟨j,o,cap,C,rfl,by omega,h2,h3,?_,h5,h6⟩,j,o,_,_,o,_,_,rfl,rfl⟩
 ·rw [SS.ld_cells h2];exact hget
 ·unfold SS.resl
  have e1:decide ((0:Int)≤(r.length:Int))=true:=zdt (by omega)
  have e2:decide ((r.length:Int)≤(cap:Int))=true:=zdt (by omega)
  have q:(Nat.beq 1 1||Nat.beq 1 0)=true:=rfl
  have e3:cond (Nat.beq cap 0) o (o+0*1)=o:=by cases Nat.beq cap 0<;>simp
  simp only [e1,e2,Int.le_refl,decide_true,Bool.and_self,zct,h2,zob,q,Int.toNat_zero,e3,Int.toNat_natCast,Nat.sub_zero]
 ·have:(C.drop o).take r.length=((C.drop o).take (r.length+1)).take r.length:=by rw [List.take_take,Nat.min_eq_left (by omega)]
  rw [this,h4]
  simp
end
structure Fr (b:Nat) (k:Value) (s s':SS):Prop where
 next:s.next≤s'.next
 lim:s'.lim=s.lim
 keep:∀ i,i<s.next→i≠b→(∀ o l c,k≠.slice (some ⟨i,o,none⟩) l c)→s'.mem.get i=s.mem.get i
def Nw (k k':Value) (s:SS):Prop:=∀ i o l c,k'=.slice (some ⟨i,o,none⟩) l c→s.next≤i∨∃ o' l' c',k=.slice (some ⟨i,o',none⟩) l' c'
theorem Fr.ofExt {b:Nat} {k:Value} {s s':SS} (h:Ext s s'):Fr b k s s':=⟨h.next,h.lim,fun i hi _ _=>h.keep i hi⟩
theorem Fr.ofMod {b:Nat} {k:Value} {s s':SS} (h:Mod [b] s s'):Fr b k s s':=⟨h.next,h.lim,fun i hi hb _=>h.keep i hi (by simpa using hb)⟩
theorem Fr.then {b:Nat} {k k':Value} {s s' s2:SS} (h:Fr b k s s') (h2:Fr b k' s' s2) (hn:Nw k k' s):Fr b k s s2:=
 ⟨zlt h.next h2.next,h2.lim.trans h.lim,fun i hi hb hk=>(h2.keep i (zll hi h.next) hb (fun o l c e=>by
  rcases hn i o l c e with h3 | ⟨o',l',c',h3⟩
  ·omega
  ·exact hk _ _ _ h3)).trans (h.keep i hi hb hk)⟩
theorem Nw.same (k:Value) (s:SS):Nw k k s:=fun i o l c e=>.inr ⟨o,l,c,e⟩
theorem Nw.nil (k:Value) (s:SS):Nw k zaR s:=fun i o l c e=>by cases e
theorem Nw.then {k k' k2:Value} {s s':SS} (h:Nw k k' s) (h2:Nw k' k2 s') (hn:s.next≤s'.next):Nw k k2 s:=fun i o l c e=>by
 rcases h2 i o l c e with h3 | ⟨o',l',c',h3⟩
 ·exact .inl (by omega)
 ·exact h i o' l' c' h3
def SqI (B:Nat) (s:SS) (b:Nat) (ws:List Nat) (E:List Int) (pc:Int) (k:Value):Prop:=
 ∃ v,At s b (zbV v E pc k)∧b<B∧Rg s v (rowsF zcP ws) 12 ws.length∧∀ i l c,v=.slice (some ⟨i,0,none⟩) l c→i≠b∧i<B
theorem Stk.sep {B:Nat} {s:SS} {k:Value} {ca:List Int} (h:Stk B s k ca) {i:Nat} (hi:i<B):∀ o l c,k≠.slice (some ⟨i,o,none⟩) l c:=fun o l c e=>by
 obtain ⟨rfl,_⟩ | ⟨j,o',cap,C,rfl,_,_,_,_,h5,_⟩:=h
 ·cases e
 ·cases e;omega
section
variable {B b : Nat} {s s' : SS} {ws : List Nat} {E : List Int} {pc : Int} {k : Value} {ca : List Int}
theorem SqI.ext (h:SqI B s b ws E pc k) (he:Ext s s'):SqI B s' b ws E pc k:=by
 obtain ⟨v,h1,h2,h3,h4⟩:=h
 exact ⟨v,h1.ext he,h2,h3.ext he,h4⟩
theorem Stk.ext (h:Stk B s k ca) (he:Ext s s'):Stk B s' k ca:=h.keep he.next fun i o l c e hB hi=>he.keep i hi
theorem SqI.set (h:SqI B s b ws E pc k) (hE:E.length=5) (x:Int):∃ s',s.st b (0+6) [.int .i64 x]=some s'∧SqI B s' b ws E x k∧Mod [b] s s'∧s'.next=s.next:=by
 obtain ⟨v,h1,h2,h3,h4⟩:=h
 obtain ⟨s2,e1,a1,m1,n1⟩:=h1.set1 (k:=0+6) (x:=.int .i64 x) (by rw [(zfC hE).2.2.1];omega) rfl
 rw [(zfC hE).2.2.2.1] at a1
 exact ⟨s2,e1,⟨v,a1,h2,h3.mod m1 (fun i l c e=>by simpa using (h4 i l c e).1),h4⟩,m1,n1⟩
theorem SqI.setK (h:SqI B s b ws E pc k) (hE:E.length=5) {x:Value} (hc:x.cells.toList=[x]) (ho:one x=true):∃ s',s.stV b (0+7) 1 x=some s'∧SqI B s' b ws E pc x∧Mod [b] s s'∧s'.next=s.next:=by
 obtain ⟨v,h1,h2,h3,h4⟩:=h
 obtain ⟨s2,e1,a1,m1,n1⟩:=h1.set1V (k:=0+7) (x:=x) hc (by rw [(zfC hE).2.2.1];omega) ho
 rw [(zfC hE).2.2.2.2] at a1
 exact ⟨s2,e1,⟨v,a1,h2,h3.mod m1 (fun i l c e=>by simpa using (h4 i l c e).1),h4⟩,m1,n1⟩
theorem SqI.pcs (h:SqI B s b ws E pc k) (hE:E.length=5):s.ld b (0+6)=some (.int .i64 pc)∧s.ld b (0+7)=some k∧∀ i,i<5→s.ld b (0+1+i*1)=some (.int .i64 (E.getD i 0)):=by
 obtain ⟨v,h1,_⟩:=h
 exact ⟨by rw [h1.ld,(zfC hE).1],by rw [h1.ld,(zfC hE).2.1],fun i hi=>by rw [h1.ld,ztk hE hi]⟩
theorem SqI.lt (h:SqI B s b ws E pc k):b<s.next∧b<B∧s.lim≤b:=by
 obtain ⟨v,h1,h2,_⟩:=h
 exact ⟨h1.2.1,h2,h1.2.2⟩
theorem zvB [Sym] (h:SqI B s b ws E pc k) (hE:E.length=5):cc 38 [ptr b 0] s=some (.int .i64 pc,s):=by
 refine znz _ s ?_
 have l:(s.ro s.next).ld b (0+6)=some (.int .i64 pc):=(h.pcs hE).1
 simp only [zlu,zaE,zob,zad,l,zaa]
 rfl
theorem zrM [Sym] (h:SqI B s b ws E pc k) (hE:E.length=5) (hs:Stk B s k ca):cc 40 [ptr b 0] s=some (.int .i64 ca.length,s):=by
 refine zkY _ s ?_
 have l:(s.ro s.next).ld b (0+7)=some k:=(h.pcs hE).2.1
 simp only [ziC,zaE,zob,zad,l,hs.len]
 rfl
theorem ztm [Sym] (h:SqI B s b ws E pc k) (hE:E.length=5) {X:Nat} (h0:0≤pc) (hX:ws[pc.toNat]?=some X):∃ n,s.next≤n∧cc 60 [ptr b 0] s=some (wV (zcg X),s.adv n):=by
 have hp:=h.pcs hE
 obtain ⟨v,h1,h2,h3,h4⟩:=h
 have hi:pc.toNat<ws.length:=(List.getElem?_eq_some_iff.1 hX).1
 have x1:Ext (s.ro s.next) ((s.ro s.next).new (.cells Z12 0)):=(Ext.refl _).new _
 have l4:((s.ro s.next).new (.cells Z12 0)).ld b 0=some v:=(zgp x1 (show b<(s.ro s.next).next from h1.2.1)).trans (by show s.ld b 0=_;rw [h1.ld];rfl)
 have l7:((s.ro s.next).new (.cells Z12 0)).ld b (0+6)=some (.int .i64 pc):=(zgp x1 (show b<(s.ro s.next).next from h1.2.1)).trans hp.1
 obtain ⟨p8,b1,b2,_⟩:=(Rg.ext (st:=s.ro s.next) h3 x1).load (j:=pc) h0 (by omega) (za8 zcC ws pc.toNat X hX) (zcC X)
 have b2':((s.ro s.next).new (.cells Z12 0)).ldN p8.1 p8.2 12=some (wV (zcg X)):=b2
 obtain ⟨s10,e10,a10,x10,n10⟩:=za1 (n:=12) (st:=s.ro s.next) (zlr _) (r:=Z12) (row:=zcP X) (v:=wV (zcg X)) (zaB _) (zcC X) (zdG _) rfl
 have r11:s10.rdN s.next 0 12=some (wV (zcg X)):=a10.rdN (zcC X)
 refine ⟨s10.next,by have:=x10.next;exact this,zlW _ s ?_⟩
 unfold zjL
 simp only [zaE,zob,zad]
 refine zbi.2 ⟨_,l4,?_⟩
 simp only [l7,zob,zaa]
 refine zbi.2 ⟨_,b1,?_⟩
 refine zbi.2 ⟨_,b2',?_⟩
 refine zbi.2 ⟨_,e10,?_⟩
 refine zbi.2 ⟨_,r11,?_⟩
 rw [flatV];rfl
end
end Go.Proofs.YtifploedaacedaaGreatDoorE
namespace Go.Proofs.YtifploedaacedaaGreatDoorE
open Go Go.E Go.Proofs
theorem zqI (x:Int) {n:Nat} (hn:n≤8):zfN .i64 x ((2^n-1:Nat):Int)=x%((2^n:Nat):Int):=by
 have hp:2^n≤2^8:=Nat.pow_le_pow_right (by omega) hn
 have hp0:0<2^n:=Nat.two_pow_pos _
 have hd:(2:Nat)^64=2^n*2^(64-n):=by rw [← Nat.pow_add];congr 1;omega
 unfold zfN
 have e1:(BitVec.ofInt 64 x&&& BitVec.ofInt 64 ((2^n-1:Nat):Int)).toNat=(x%2^64).toNat%2^n:=by
  rw [BitVec.toNat_and,BitVec.toNat_ofInt,BitVec.toNat_ofInt]
  have h2:(((2^n-1:Nat):Int)%((2^64:Nat):Int)).toNat=2^n-1:=by
   generalize 2^n=q at hp hp0
   omega
  rw [h2,Nat.and_two_pow_sub_one_eq_mod]
  rfl
 show IntKind.wrap .i64 ((BitVec.ofInt 64 x&&& BitVec.ofInt 64 ((2^n-1:Nat):Int)).toNat:Int)=_
 rw [e1]
 have h3:(((x%2^64).toNat%2^n:Nat):Int)=x%((2^n:Nat):Int):=by
  rw [Int.natCast_emod,Int.toNat_of_nonneg (Int.emod_nonneg _ (by omega))]
  have:(2:Int)^64=((2^n:Nat):Int)*((2^(64-n):Nat):Int):=by rw [← Int.natCast_mul,← hd];rfl
  rw [this]
  exact Int.emod_emod_of_dvd x (Int.dvd_mul_right _ _)
 rw [h3]
 have h4:0≤x%((2^n:Nat):Int):=Int.emod_nonneg _ (by omega)
 have h5:x%((2^n:Nat):Int)<((2^n:Nat):Int):=Int.emod_lt_of_pos _ (by omega)
 exact wrap64 (by omega) (by omega)
def zpI (ca:List Int) (a:Int):List Int:=if 8<ca.length+1 then (ca++[a]).drop 1 else ca++[a]
def zoR (E:List Int):List Int→Int
 | []=>E.getD 0 0
 | a::r=>(a::r).getLast (by simp)
def wordAt (ws:List Nat) (pc:Int):Nat:=ws.getD pc.toNat 0
def zcQ (ws:List Nat) (E:List Int) (pc:Int) (ca:List Int) (is:Bool) (tb op:Int):Int×List Int×Bool:=
 let u:=zaF (wordAt ws pc) 8
 let tw:Int:=(zaF (wordAt ws pc) 10:Nat)
 if u=0 then (pc+1,ca,false) else if u=1 then (tw,ca,false) else if u=2 then (cond is tw (pc+1),ca,false)
 else if u=3 then (tw,zpI ca (pc+1),false) else if u=4 then (zoR E ca,ca.dropLast,false)
 else if u=5 then (if op=1 then E.getD 1 0 else if op=2 then E.getD 2 0 else tw+tb%64,ca,false)
 else if u=6 then (tw+tb%16,ca,false) else (E.getD 0 0,[],true)
section
variable {B b : Nat} {s s' : SS} {ws : List Nat} {E : List Int} {pc : Int} {k : Value} {ca : List Int}
theorem Stk.mod (h:Stk B s k ca) (m:Mod [b] s s') (hb:b<B):Stk B s' k ca:=h.keep m.next fun i o l c e hB hi=>m.keep i hi (by simp;omega)
theorem SqI.keep (h:SqI B s b ws E pc k) (hn:s.next≤s'.next) (hl:s'.lim=s.lim) (hk:∀ i,i<B→i<s.next→s'.mem.get i=s.mem.get i):SqI B s' b ws E pc k:=by
 obtain ⟨v,h1,h2,h3,h4⟩:=h
 exact ⟨v,⟨(hk b h2 h1.2.1).trans h1.1,by have:=h1.2.1;omega,by rw [hl];exact h1.2.2⟩,h2,h3.keep hn fun i l c e hi=>hk i (h4 i l c e).2 hi,h4⟩
theorem ztn [Sym] (h:SqI B s b ws E pc k) (hE:E.length=5) (hs:Stk B s k ca) (hB:B≤s.next) (hl:s.lim≤B) (hca:ca.length≤8) (h0:0≤pc) (h1:pc≤100000):
  ∃ s' k',cc 65 [ptr b 0] s=some (.tuple #[],s')∧SqI B s' b ws E pc k'∧Stk B s' k' (zpI ca (pc+1))∧Fr b k s s'∧Nw k k' s:=by
 have hp:=h.pcs hE
 have hw:IntKind.wrap .i64 (pc+1)=pc+1:=wrap64 (by omega) (by omega)
 have hbB:=h.lt.2.1
 have x8:Ext s (s.new (.cells [.int .i64 (pc+1)] 1)):=(Ext.refl _).new _
 obtain ⟨s9,e9,n9,l9,m9,f9⟩:=hs.push hB hl (by omega) (pc+1)
 have h9:SqI B s9 b ws E pc k:=h.keep (by omega) l9 fun i hi hi2=>f9 i hi2 (hs.sep hi)
 have st9:Stk B s9 (.slice (some ⟨s.next+1,0,none⟩) (ca.length+1) (ca.length+1)) (ca++[pc+1]):=
  .inr ⟨s.next+1,0,ca.length+1,_,by simp,by simp,m9,by simp,by rw [List.drop_zero];exact List.take_of_length_le (by simp),by omega,by omega⟩
 have hc:=st9.cell
 obtain ⟨s12,e12,h12,m12,n12⟩:=h9.setK hE hc.1 hc.2
 have st12:=st9.mod m12 hbB
 have l15:=(h12.pcs hE).2.1
 have q16:(lenV (.slice (some ⟨s.next+1,0,none⟩) (ca.length+1) (ca.length+1))).bind (asI .i64)=some ((ca.length+1:Nat):Int):=rfl
 have fr12:Fr b k s s12:=⟨by omega,m12.lim.trans l9,fun i hi hb hk=>(m12.keep i (by omega) (by simpa using hb)).trans (f9 i hi hk)⟩
 have nw12:Nw k (.slice (some ⟨s.next+1,0,none⟩) (ca.length+1) (ca.length+1)) s:=fun i o l c e=>by cases e;exact .inl (by omega)
 have hE8:s.ld b (0+7)=some k:=hp.2.1
 unfold zpI
 by_cases hq:8<ca.length+1
 ·rw [if_pos hq]
  have hq':(8:Int)<((ca.length+1:Nat):Int):=by omega
  obtain ⟨a0,r,hcr⟩:∃ a0 r,ca++[pc+1]=a0::r:=by
   cases ca with
   | nil=>simp at hq
   | cons a0 r=>exact ⟨a0,r++[pc+1],rfl⟩
  have hrl:r.length=ca.length:=by
   have:=congrArg List.length hcr
   simp at this;omega
  rw [hcr] at st12 ⊢
  obtain ⟨k2,c21,st21,j,o,l,c,o',l',c',hkk,hk2⟩:=st12.tail (by omega)
  rw [hrl] at c21
  have hc2:=st21.cell
  obtain ⟨s24,e24,h24,m24,n24⟩:=h12.setK hE hc2.1 hc2.2
  refine ⟨s24,k2,zhk _ s ?_,h24,st21.mod m24 hbB,fr12.then (.ofMod m24:Fr b (.slice (some ⟨s.next+1,0,none⟩) (ca.length+1) (ca.length+1)) s12 s24) nw12,fun i o1 l1 c1 e=>?_⟩
  ·have q20:sliceLen (.slice (some ⟨s.next+1,0,none⟩) (ca.length+1) (ca.length+1))=some ((ca.length+1:Nat):Int):=rfl
   simp only [zgr,zaE,zob,zad,hE8,hp.1,zaa,hw,e9,e12,l15,q16,zdt hq',zct,q20,c21,e24]
  ·rw [hk2] at e;cases e;cases hkk
   exact .inl (by omega)
 ·rw [if_neg hq]
  have hq':¬ (8:Int)<((ca.length+1:Nat):Int):=by omega
  refine ⟨s12,_,zhk _ s ?_,h12,st12,fr12,nw12⟩
  simp only [zgr,zaE,zob,zad,hE8,hp.1,zaa,hw,e9,e12,l15,q16,zdf hq',zcf]
theorem elem50 {b:Nat}:zaM (ptr b (0+1)) 5 0 1=some (b,0+1+0*1):=zm9 (i:=0) (by omega)
theorem zto [Sym] (h:SqI B s b ws E pc k) (hE:E.length=5) (hs:Stk B s k ca) (hca:ca.length≤8):
  ∃ s' k',cc 66 [ptr b 0] s=some (.int .i64 (zoR E ca),s')∧SqI B s' b ws E pc k'∧Stk B s' k' ca.dropLast∧Mod [b] s s'∧Nw k k' s:=by
 have hp:=h.pcs hE
 have hbB:=h.lt.2.1
 have q4:=hs.len
 rcases List.eq_nil_or_concat ca with rfl | ⟨r,a,rfl⟩
 ·have hz:((([]:List Int).length:Nat):Int)=0:=rfl
  have l7:=hp.2.2 0 (by omega)
  refine ⟨s,k,zhl _ s ?_,h,hs,.refl _,.same _ _⟩
  simp only [zgt,zaE,zob,zad,hp.2.1,q4,zdt hz,zct,elem50,l7,zaa]
  rfl
 ·rw [List.concat_eq_append] at*
  have hlen:(r++[a]).length=r.length+1:=by simp
  have hz:¬ (((r++[a]).length:Nat):Int)=0:=by omega
  have hw:IntKind.wrap .i64 ((((r++[a]).length:Nat):Int)-1)=(r.length:Int):=by rw [hlen,wrap64 (by omega) (by omega)];omega
  obtain ⟨p,k2,b1,b2,b3,st2,j,o,l,c,o',l',c',hkk,hk2⟩:=hs.init
  have hc2:=st2.cell
  obtain ⟨s22,e22,h22,m22,n22⟩:=h.setK hE hc2.1 hc2.2
  have hbt:zoR E (r++[a])=a:=by
   cases r with
   | nil=>rfl
   | cons x r=>exact List.getLast_concat (l:=x::r) (a:=a)
  refine ⟨s22,k2,zhl _ s ?_,h22,by rw [List.dropLast_concat];exact st2.mod m22 hbB,m22,fun i o1 l1 c1 e=>?_⟩
  ·simp only [zgt,zaE,zob,zad,hp.2.1,q4,zdf hz,zcf,hw,b1,b2,zaa,b3,e22,hbt]
  ·rw [hk2] at e;cases e
   exact .inr ⟨_,_,_,hkk⟩
theorem zvC [Sym] (h:SqI B s b ws E pc k) (hE:E.length=5) {i:Nat} (hi:i<5):∃ s',cc 41 [ptr b 0,.int .i64 i] s=some (.tuple #[],s')∧SqI B s' b ws E (E.getD i 0) zaR∧Mod [b] s s':=by
 obtain ⟨v,h1,h2,h3,h4⟩:=h
 obtain ⟨s',c,a,m,_⟩:=go_ok hE h1 hi
 exact ⟨s',c,⟨v,a,h2,h3.mod m (fun i l c e=>by simpa using (h4 i l c e).1),h4⟩,m⟩
theorem zos (X:Nat) {k:Nat} (hk:k<12):(zcP X)[k]?=some (.int .i64 ((zaF X k:Nat):Int)):=by
 unfold zcP
 rw [zjs,znO X hk];rfl
theorem ztp [Sym] (h:SqI B s b ws E pc k) (hE:E.length=5) (hs:Stk B s k ca) (hB:B≤s.next) (hl:s.lim≤B) (hca:ca.length≤8) (h0:0≤pc) (hN:ws.length≤2048) (h1:pc<ws.length) (is:Bool) (tb op:Int):
  ∃ s' k',cc 39 [ptr b 0,.agg #[.bool is,.int .i64 tb,.int .i64 op]] s=some (.bool (zcQ ws E pc ca is tb op).2.2,s')∧SqI B s' b ws E (zcQ ws E pc ca is tb op).1 k'∧Stk B s' k' (zcQ ws E pc ca is tb op).2.1∧Fr b k s s'∧Nw k k' s:=by
 obtain ⟨X,hX⟩:∃ X,ws[pc.toNat]?=some X:=⟨_,zge (by omega)⟩
 have hwa:wordAt ws pc=X:=by unfold wordAt;rw [List.getD_eq_getElem?_getD,hX];rfl
 have hls:s.lim≤s.next:=by omega
 have hbB:=h.lt.2.1
 have hbn:=h.lt.1
 have a1:At (s.new (.cells [.bool is,.int .i64 tb,.int .i64 op] 0)) s.next [.bool is,.int .i64 tb,.int .i64 op]:=At.new hls _
 have x1:Ext s (s.new (.cells [.bool is,.int .i64 tb,.int .i64 op] 0)):=(Ext.refl _).new _
 have hc1:(Value.agg #[.bool is,.int .i64 tb,.int .i64 op]).cells.toList=[.bool is,.int .i64 tb,.int .i64 op]:=zaB _
 obtain ⟨s1,hs1⟩:∃ s1,s.new (.cells [.bool is,.int .i64 tb,.int .i64 op] 0)=s1:=⟨_,rfl⟩
 rw [hs1] at a1 x1
 obtain ⟨n2,hn2,c2⟩:=ztm (h.ext x1) hE h0 hX
 have x2:=Ext.advR s1 hn2
 have x12:=x1.trans x2
 obtain ⟨s4,e4,a4,x4,n4⟩:=za1 (n:=12) (st:=s1.adv n2) (x12.ll hls) (r:=Z12) (row:=zcP X) (v:=wV (zcg X)) (zaB _) (zcC X) (zdG _) rfl
 have e4':((s1.adv n2).new (.cells [.int .i64 0,.int .i64 0,.int .i64 0,.int .i64 0,.int .i64 0,.int .i64 0,.int .i64 0,.int .i64 0,.int .i64 0,.int .i64 0,.int .i64 0,.int .i64 0] 0)).stV n2 0 12 (wV (zcg X))=some s4:=e4
 have a4:At s4 n2 (zcP X):=a4
 have he4:=x12.trans x4
 have h4:=h.ext he4
 have hs4:=hs.ext he4
 have hp4:=h4.pcs hE
 have l5:s4.ld n2 8=some (.int .i64 ((zaF X 8:Nat):Int)):=by rw [a4.ld];exact zos X (by omega)
 have l10:s4.ld n2 10=some (.int .i64 ((zaF X 10:Nat):Int)):=by rw [a4.ld];exact zos X (by omega)
 have ac:=(a1.ext x2).ext x4
 have k0:s4.ld s.next 0=some (.bool is):=ac.ld
 have k1:s4.ld s.next 1=some (.int .i64 tb):=ac.ld
 have k2:s4.ld s.next 2=some (.int .i64 op):=ac.ld
 have hn1:s.next<s1.next:=a1.2.1
 have hn24:n2<s4.next:=a4.2.1
 have u10:=zpH X 10
 have hw1:IntKind.wrap .i64 (pc+1)=pc+1:=wrap64 (by omega) (by omega)
 have hadv:(s1.adv n2).next=n2:=rfl
 have fr4:Fr b k s s4:=.ofExt he4
 have hB4:B≤s4.next:=by have:=he4.next;omega
 have hl4:s4.lim≤B:=by rw [he4.lim];exact hl
 have ldN:∀ {q kk:Nat} {s2:SS},Mod [b] s4 s2→q<s4.next→q≠b→s2.ld q kk=s4.ld q kk:=fun m hq hb=>by unfold SS.ld;rw [m.keep _ hq (by simpa using hb)]
 have hnb:n2≠b:=by omega
 have hcb:s.next≠b:=by omega
 unfold zcQ
 rw [hwa]
 simp only
 by_cases u0:zaF X 8=0
 ·have i0:((zaF X 8:Nat):Int)=0:=by omega
  rw [if_pos u0]
  obtain ⟨s12,e12,h12,m12,_⟩:=h4.set hE (pc+1)
  refine ⟨s12,k,zaY _ _ s ?_,h12,hs4.mod m12 hbB,fr4.then (.ofMod m12:Fr b k s4 s12) (.same _ _),.same _ _⟩
  simp only [zba,hc1,hs1,c2,zob,hadv,e4',l5,zaa,zdt i0,zct,zaE,zad,hp4.1,hw1,e12]
 have i0:¬ ((zaF X 8:Nat):Int)=0:=by omega
 rw [if_neg u0]
 by_cases u1:zaF X 8=1
 ·have i1:((zaF X 8:Nat):Int)=1:=by omega
  rw [if_pos u1]
  obtain ⟨s12,e12,h12,m12,_⟩:=h4.set hE ((zaF X 10:Nat):Int)
  refine ⟨s12,k,zaY _ _ s ?_,h12,hs4.mod m12 hbB,fr4.then (.ofMod m12:Fr b k s4 s12) (.same _ _),.same _ _⟩
  simp only [zba,hc1,hs1,c2,zob,hadv,e4',l5,zaa,zdf i0,zcf,zdt i1,zct,zaE,zad,l10,e12]
 have i1:¬ ((zaF X 8:Nat):Int)=1:=by omega
 rw [if_neg u1]
 by_cases u2:zaF X 8=2
 ·have i2:((zaF X 8:Nat):Int)=2:=by omega
  rw [if_pos u2]
  obtain ⟨s12,e12,h12,m12,n12⟩:=h4.set hE (pc+1)
  have k0':s12.ld s.next 0=some (.bool is):=(ldN m12 (by omega) hcb).trans k0
  cases is with
  | false=>
    refine ⟨s12,k,zaY _ _ s ?_,h12,hs4.mod m12 hbB,fr4.then (.ofMod m12:Fr b k s4 s12) (.same _ _),.same _ _⟩
    simp only [zba,hc1,hs1,c2,zob,hadv,e4',l5,zaa,zdf i0,zdf i1,zcf,zdt i2,zct,zaE,zad,hp4.1,hw1,e12,k0',zah]
  | true=>
    have l10':s12.ld n2 10=some (.int .i64 ((zaF X 10:Nat):Int)):=(ldN m12 hn24 hnb).trans l10
    obtain ⟨s13,e13,h13,m13,_⟩:=h12.set hE ((zaF X 10:Nat):Int)
    refine ⟨s13,k,zaY _ _ s ?_,h13,(hs4.mod m12 hbB).mod m13 hbB,fr4.then (.ofMod (m12.then m13):Fr b k s4 s13) (.same _ _),.same _ _⟩
    simp only [zba,hc1,hs1,c2,zob,hadv,e4',l5,zaa,zdf i0,zdf i1,zcf,zdt i2,zct,zaE,zad,hp4.1,hw1,e12,k0',zah,l10',e13]
 have i2:¬ ((zaF X 8:Nat):Int)=2:=by omega
 rw [if_neg u2]
 by_cases u3:zaF X 8=3
 ·have i3:((zaF X 8:Nat):Int)=3:=by omega
  rw [if_pos u3]
  obtain ⟨s29,k',c29,h29,st29,fr29,nw29⟩:=ztn h4 hE hs4 hB4 hl4 hca h0 (by omega)
  have l10':s29.ld n2 10=some (.int .i64 ((zaF X 10:Nat):Int)):=by
   have:s29.ld n2 10=s4.ld n2 10:=by
    unfold SS.ld
    rw [fr29.keep n2 hn24 hnb (fun o l c e=>by
     obtain ⟨rfl,_⟩ | ⟨j,o',cap,C,rfl,_,_,_,_,_,h6⟩:=hs
     ·cases e
     ·cases e;omega)]
   rw [this,l10]
  obtain ⟨s33,e33,h33,m33,_⟩:=h29.set hE ((zaF X 10:Nat):Int)
  refine ⟨s33,k',zaY _ _ s ?_,h33,st29.mod m33 hbB,(fr4.then fr29 (.same _ _)).then (.ofMod m33:Fr b k' s29 s33) (Nw.then (.same _ s) nw29 he4.next),Nw.then (.same _ s) nw29 he4.next⟩
  simp only [zba,hc1,hs1,c2,zob,hadv,e4',l5,zaa,zdf i0,zdf i1,zdf i2,zcf,zdt i3,zct,zaE,zad,c29,l10',e33]
 have i3:¬ ((zaF X 8:Nat):Int)=3:=by omega
 rw [if_neg u3]
 by_cases u4:zaF X 8=4
 ·have i4:((zaF X 8:Nat):Int)=4:=by omega
  rw [if_pos u4]
  obtain ⟨s34,k',c34,h34,st34,m34,nw34⟩:=zto h4 hE hs4 hca
  obtain ⟨s38,e38,h38,m38,_⟩:=h34.set hE (zoR E ca)
  refine ⟨s38,k',zaY _ _ s ?_,h38,st34.mod m38 hbB,fr4.then (.ofMod (m34.then m38):Fr b k s4 s38) (.same _ _),Nw.then (.same _ s) nw34 he4.next⟩
  simp only [zba,hc1,hs1,c2,zob,hadv,e4',l5,zaa,zdf i0,zdf i1,zdf i2,zdf i3,zcf,zdt i4,zct,zaE,zad,c34,e38]
 have i4:¬ ((zaF X 8:Nat):Int)=4:=by omega
 rw [if_neg u4]
 by_cases u5:zaF X 8=5
 ·have i5:((zaF X 8:Nat):Int)=5:=by omega
  rw [if_pos u5]
  have w41:zfN .i64 tb 63=tb%64:=zqI tb (n:=6) (by omega)
  have g1:0≤tb%64:=Int.emod_nonneg _ (by omega)
  have g2:tb%64<64:=Int.emod_lt_of_pos _ (by omega)
  have w42:IntKind.wrap .i64 (((zaF X 10:Nat):Int)+tb%64)=((zaF X 10:Nat):Int)+tb%64:=wrap64 (by omega) (by omega)
  obtain ⟨s45,e45,h45,m45,n45⟩:=h4.set hE (((zaF X 10:Nat):Int)+tb%64)
  have hp45:=h45.pcs hE
  have k2':s45.ld s.next 2=some (.int .i64 op):=(ldN m45 (by omega) hcb).trans k2
  by_cases o1:op=1
  ·rw [if_pos o1]
   subst o1
   have l50:=hp45.2.2 1 (by omega)
   have y50:zaM (ptr b (0+1)) 5 1 1=some (b,0+1+1*1):=zm9 (i:=1) (by omega)
   obtain ⟨s54,e54,h54,m54,_⟩:=h45.set hE (E.getD 1 0)
   refine ⟨s54,k,zaY _ _ s ?_,h54,(hs4.mod m45 hbB).mod m54 hbB,fr4.then (.ofMod (m45.then m54):Fr b k s4 s54) (.same _ _),.same _ _⟩
   simp only [zba,hc1,hs1,c2,zob,hadv,e4',l5,zaa,zdf i0,zdf i1,zdf i2,zdf i3,zdf i4,zcf,zdt i5,zct,l10,k1,w41,w42,zaE,zad,e45,k2',decide_true,y50,l50,e54]
  ·rw [if_neg o1]
   by_cases o2:op=2
   ·rw [if_pos o2]
    subst o2
    have l50:=hp45.2.2 2 (by omega)
    have y50:zaM (ptr b (0+1)) 5 2 1=some (b,0+1+2*1):=zm9 (i:=2) (by omega)
    obtain ⟨s54,e54,h54,m54,_⟩:=h45.set hE (E.getD 2 0)
    refine ⟨s54,k,zaY _ _ s ?_,h54,(hs4.mod m45 hbB).mod m54 hbB,fr4.then (.ofMod (m45.then m54):Fr b k s4 s54) (.same _ _),.same _ _⟩
    simp only [zba,hc1,hs1,c2,zob,hadv,e4',l5,zaa,zdf i0,zdf i1,zdf i2,zdf i3,zdf i4,zcf,zdt i5,zct,l10,k1,w41,w42,zaE,zad,e45,k2',zdf o1,decide_true,y50,l50,e54]
   ·rw [if_neg o2]
    refine ⟨s45,k,zaY _ _ s ?_,h45,hs4.mod m45 hbB,fr4.then (.ofMod m45:Fr b k s4 s45) (.same _ _),.same _ _⟩
    simp only [zba,hc1,hs1,c2,zob,hadv,e4',l5,zaa,zdf i0,zdf i1,zdf i2,zdf i3,zdf i4,zcf,zdt i5,zct,l10,k1,w41,w42,zaE,zad,e45,k2',zdf o1,zdf o2]
 have i5:¬ ((zaF X 8:Nat):Int)=5:=by omega
 rw [if_neg u5]
 by_cases u6:zaF X 8=6
 ·have i6:((zaF X 8:Nat):Int)=6:=by omega
  rw [if_pos u6]
  have w41:zfN .i64 tb 15=tb%16:=zqI tb (n:=4) (by omega)
  have g1:0≤tb%16:=Int.emod_nonneg _ (by omega)
  have g2:tb%16<16:=Int.emod_lt_of_pos _ (by omega)
  have w42:IntKind.wrap .i64 (((zaF X 10:Nat):Int)+tb%16)=((zaF X 10:Nat):Int)+tb%16:=wrap64 (by omega) (by omega)
  obtain ⟨s45,e45,h45,m45,n45⟩:=h4.set hE (((zaF X 10:Nat):Int)+tb%16)
  refine ⟨s45,k,zaY _ _ s ?_,h45,hs4.mod m45 hbB,fr4.then (.ofMod m45:Fr b k s4 s45) (.same _ _),.same _ _⟩
  simp only [zba,hc1,hs1,c2,zob,hadv,e4',l5,zaa,zdf i0,zdf i1,zdf i2,zdf i3,zdf i4,zdf i5,zcf,zdt i6,zct,l10,k1,w41,w42,zaE,zad,e45]
 have i6:¬ ((zaF X 8:Nat):Int)=6:=by omega
 rw [if_neg u6]
 obtain ⟨s71,c71,h71,m71⟩:=zvC h4 hE (i:=0) (by omega)
 have c71':cc 41 [ptr b 0,.int .i64 0] s4=some (.tuple #[],s71):=c71
 refine ⟨s71,zaR,zaY _ _ s ?_,h71,Stk.nil,fr4.then (.ofMod m71:Fr b k s4 s71) (.same _ _),.nil _ _⟩
 simp only [zba,hc1,hs1,c2,zob,hadv,e4',l5,zaa,zdf i0,zdf i1,zdf i2,zdf i3,zdf i4,zdf i5,zdf i6,zcf,c71']
end
end Go.Proofs.YtifploedaacedaaGreatDoorE
namespace Go.Proofs.YtifploedaacedaaGreatDoorE
set_option maxRecDepth 20000
open Go Go.E Go.Proofs
def zdp:LoopI:=⟨[(9,.any),(11,.int .i64),(13,.int .i64)],[(.exit 4,[(9,.any),(11,.int .i64)]),(.ret,[(2,.bool)])]⟩
def zdq:LoopI:=⟨[(0,.int .i64),(9,.any),(11,.int .i64),(12,.int .i64)],[(.exit 2,[(0,.int .i64),(9,.any),(11,.int .i64)]),(.ret,[(2,.bool)])]⟩
def zdu:LoopI:=⟨[(0,.int .i64),(3,.str),(4,.int .i64)],[(.exit 0,[(0,.int .i64),(3,.str)])]⟩
def zdQ (n:Nat):Option LoopI:=cond (Nat.beq n 7) (some zdu) (cond (Nat.beq n 19) (some zdq) (cond (Nat.beq n 25) (some zdp) (none)))
noncomputable def zbZ (cf:zaj) (lf:zab) (deep':Int) (st:SS):Option (Value×SS):=
 (cf 35 [] (st.ro st.next)).bind fun a=>
 ((some a.1).bind asB).bind fun b=>
 cond (!b) (
 some (.bool false,st.adv a.2.next)) (
 cond (decide (deep'<1)) (
 some (.bool true,st.adv a.2.next)) (
 cond (decide (8<deep')) (
 some (.bool true,st.adv a.2.next)) (
 (lf 7 [.int .i64 deep',.string ⟨#[46,101,110,116,114,121,32,102,101,116,99,104,10,46,101,110,116,114,121,32,111,112,101,114,97,110,100,10,46,101,110,116,114,121,32,98,114,97,110,99,104,10,46,101,110,116,114,121,32,102,97,117,108,116,10,46,101,110,116,114,121,32,105,110,116,101,114,114,117,112,116,10,111,112,101,114,97,110,100,58,32,115,101,113,61,101,110,100,10,98,114,97,110,99,104,58,32,115,101,113,61,101,110,100,10,102,97,117,108,116,58,32,115,101,113,61,101,110,100,10,105,110,116,101,114,114,117,112,116,58,32,115,101,113,61,101,110,100,10,102,101,116,99,104,58,32,115,101,113,61,99,97,108,108,32,116,111,61,102,101,116,99,104,43,50,10,32,115,101,113,61,101,110,100,10]⟩,.int .i64 0] a.2).bind fun c=>
 ((c.2.1[0]?).bind (asI .i64)).bind fun d=>
 ((c.2.1[1]?).bind asS).bind fun e=>
 (cf 16 [.string e] c.2.2).bind fun f=>
 (zao f.1 0).bind fun g=>
 (zao f.1 1).bind fun h=>
 ((zao f.1 2).bind (asI .i64)).bind fun i=>
 let j:SS:=f.2.new (.cells [.slice none 0 0,.slice none 0 0] 0)
 let k:SS:=j.new (.cells [.int .i64 0,.int .i64 0] 0)
 (k.stV f.2.next 0 2 g).bind fun l=>
 (l.stV j.next 0 2 h).bind fun m=>
 (m.ldN f.2.next 0 2).bind fun n=>
 (cf 37 [n] m).bind fun o=>
 (zao o.1 0).bind fun p=>
 ((zao o.1 1).bind (asI .i64)).bind fun q=>
 cond (!(decide (i=0))) (
 some (.bool false,st.adv o.2.next)) (
 cond (!(decide (q=0))) (
 some (.bool false,st.adv o.2.next)) (
 (cf 38 [p] o.2).bind fun r=>
 ((some r.1).bind (asI .i64)).bind fun s=>
 (lf 19 [.int .i64 d,p,.int .i64 s,.int .i64 0] r.2).bind fun t=>
 cond (Nat.beq t.1 0) (
 ((t.2.1[0]?).bind (asI .i64)).bind fun u=>
 (t.2.1[1]?).bind fun v=>
 ((t.2.1[2]?).bind (asI .i64)).bind fun w=>
 let x:Int:=IntKind.wrap .i64 (u-1)
 (lf 25 [v,.int .i64 w,.int .i64 x] t.2.2).bind fun y=>
 cond (Nat.beq y.1 0) (
 (y.2.1[0]?).bind fun z=>
 ((y.2.1[1]?).bind (asI .i64)).bind fun A=>
 (cf 38 [z] y.2.2).bind fun B=>
 ((some B.1).bind (asI .i64)).bind fun C=>
 let D:Int:=IntKind.wrap .i64 (A+1)
 cond (decide (C=D)) (
 (cf 39 [z,.agg #[.bool false,.int .i64 0,.int .i64 0]] B.2).bind fun E=>
 ((some E.1).bind asB).bind fun F=>
 cond F (
 (cf 38 [z] E.2).bind fun G=>
 ((some G.1).bind (asI .i64)).bind fun H=>
 some (.bool (decide (H=A)),st.adv G.2.next)) (
 some (.bool false,st.adv E.2.next))) (
 some (.bool false,st.adv B.2.next))) (
 ((y.2.1[0]?).bind asB).bind fun I=>
 some (.bool I,st.adv y.2.2.next))) (
 ((t.2.1[0]?).bind asB).bind fun J=>
 some (.bool J,st.adv t.2.2.next)))))))
noncomputable abbrev zaz:zab:=lS Tryz.prog Lk0 Tryz.f12 zdQ
theorem zgx:Lk0.func 12=some (12,Tryz.f12):=by kernel_rfl
theorem zcn [Sym] (deep':Int) (st:SS) {r:Value×SS} (h:zbZ cc zaz deep' st=some r):cc 12 [.int .i64 deep'] st=some r:=
 zaf (li:=zdQ) zai zal zgx rfl (fun _=>rfl) (.trans (by kernel_rfl) h)
noncomputable def zbG (cf:zaj) (lf:zab) (deep':Int) (s':ByteArray) (i':Int) (st:SS):Option (Nat×List Value×SS):=
 cond (decide (i'<deep')) (
 let n1:Int:=IntKind.wrap .i64 (i'+1)
 cond (decide (n1<deep')) (
 let n2:Int:=IntKind.wrap .i64 (2*i')
 let n3:Int:=IntKind.wrap .i64 (4+n2)
 (((zgq s' ⟨#[32,115,101,113,61,99,97,108,108,32,116,111,61,102,101,116,99,104,43]⟩).bind fun s=>some (.string s)).bind asS).bind fun s4=>
 let n5:Int:=IntKind.wrap .i64 (Int.tdiv n3 10)
 let n6:Int:=IntKind.wrap .i64 (48+n5)
 let n7:Int:=IntKind.wrap .u8 n6
 let n8:Int:=Int.tmod n3 10
 let n9:Int:=IntKind.wrap .i64 (48+n8)
 let n10:Int:=IntKind.wrap .u8 n9
 let st11:SS:=st.new (.cells ([.int .u8 n7,.int .u8 n10]) 1)
 (st11.bytes (.slice (some ⟨st.next,0,none⟩) 2 2)).bind fun s12=>
 (((zgq s4 s12).bind fun s=>some (.string s)).bind asS).bind fun s13=>
 (((zgq s13 ⟨#[10,32,115,101,113,61,114,101,116,10]⟩).bind fun s=>some (.string s)).bind asS).bind fun s14=>
 let n15:Int:=IntKind.wrap .i64 (i'+1)
 lf 7 [.int .i64 deep',.string s14,.int .i64 n15] st11) (
 (((zgq s' ⟨#[32,115,101,113,61,114,101,116,10]⟩).bind fun s=>some (.string s)).bind asS).bind fun s16=>
 let n17:Int:=IntKind.wrap .i64 (i'+1)
 lf 7 [.int .i64 deep',.string s16,.int .i64 n17] st)) (
 some (0,[.int .i64 deep',.string s'],st))
theorem zbY [Sym] (deep':Int) (s':ByteArray) (i':Int) (st:SS) {r:Nat×List Value×SS} (h:zbG cc zaz deep' s' i' st=some r):zaz 7 [.int .i64 deep',.string s',.int .i64 i'] st=some r:=
 zas zai zal (key:=7) (I:=zdu) rfl (by kernel_rfl) (by kernel_rfl) rfl rfl (.trans (by kernel_rfl) h)
noncomputable def zch (cf:zaj) (lf:zab) (deep':Int) (q':Value) (at0':Int) (i':Int) (st:SS):Option (Nat×List Value×SS):=
 cond (decide (i'<deep')) (
 (cf 39 [q',.agg #[.bool false,.int .i64 0,.int .i64 0]] st).bind fun a=>
 ((some a.1).bind asB).bind fun b=>
 (cf 40 [q'] a.2).bind fun c=>
 ((some c.1).bind (asI .i64)).bind fun d=>
 let e:Int:=IntKind.wrap .i64 (i'+1)
 cond (!(decide (d=e))) (
 some (1,[.bool false],c.2)) (
 (cf 38 [q'] c.2).bind fun f=>
 ((some f.1).bind (asI .i64)).bind fun g=>
 let h:Int:=IntKind.wrap .i64 (at0'+2)
 let i:Int:=IntKind.wrap .i64 (2*i')
 let j:Int:=IntKind.wrap .i64 (h+i)
 cond (!(decide (g=j))) (
 some (1,[.bool false],f.2)) (
 let k:Int:=IntKind.wrap .i64 (i'+1)
 lf 19 [.int .i64 deep',q',.int .i64 at0',.int .i64 k] f.2))) (
 some (0,[.int .i64 deep',q',.int .i64 at0'],st))
theorem zc8 [Sym] (deep':Int) (q':Value) (at0':Int) (i':Int) (st:SS) {r:Nat×List Value×SS} (h:zch cc zaz deep' q' at0' i' st=some r):zaz 19 [.int .i64 deep',q',.int .i64 at0',.int .i64 i'] st=some r:=
 zas zai zal (key:=19) (I:=zdq) rfl (by kernel_rfl) (by kernel_rfl) rfl rfl (.trans (by kernel_rfl) h)
noncomputable def zci (cf:zaj) (lf:zab) (q':Value) (at0':Int) (i':Int) (st:SS):Option (Nat×List Value×SS):=
 cond (decide (0≤i')) (
 (cf 39 [q',.agg #[.bool false,.int .i64 0,.int .i64 0]] st).bind fun a=>
 ((some a.1).bind asB).bind fun b=>
 (cf 40 [q'] a.2).bind fun c=>
 ((some c.1).bind (asI .i64)).bind fun d=>
 cond (!(decide (d=i'))) (
 some (1,[.bool false],c.2)) (
 let e:Int:=IntKind.wrap .i64 (i'-1)
 lf 25 [q',.int .i64 at0',.int .i64 e] c.2)) (
 some (0,[q',.int .i64 at0'],st))
theorem zc9 [Sym] (q':Value) (at0':Int) (i':Int) (st:SS) {r:Nat×List Value×SS} (h:zci cc zaz q' at0' i' st=some r):zaz 25 [q',.int .i64 at0',.int .i64 i'] st=some r:=
 zas zai zal (key:=25) (I:=zdp) rfl (by kernel_rfl) (by kernel_rfl) rfl rfl (.trans (by kernel_rfl) h)
def zeA:LoopI:=⟨[(4,.any),(6,.int .i64)],[(.exit 0,[(4,.any)]),(.ret,[(0,.bool)])]⟩
def zeT (n:Nat):Option LoopI:=cond (Nat.beq n 6) (some zeA) (none)
noncomputable def zfJ (cf:zaj) (lf:zab) (st:SS):Option (Value×SS):=
 (cf 16 [.string ⟨#[46,101,110,116,114,121,32,102,101,116,99,104,10,46,101,110,116,114,121,32,111,112,101,114,97,110,100,10,46,101,110,116,114,121,32,98,114,97,110,99,104,10,46,101,110,116,114,121,32,102,97,117,108,116,10,46,101,110,116,114,121,32,105,110,116,101,114,114,117,112,116,10,102,101,116,99,104,58,32,115,101,113,61,110,101,120,116,10,111,112,101,114,97,110,100,58,32,115,101,113,61,106,109,112,32,116,111,61,102,97,117,108,116,10,98,114,97,110,99,104,58,32,115,101,113,61,101,110,100,10,102,97,117,108,116,58,32,115,101,113,61,106,109,112,32,116,111,61,98,114,97,110,99,104,10,105,110,116,101,114,114,117,112,116,58,32,115,101,113,61,101,110,100]⟩] (st.ro st.next)).bind fun a=>
 (zao a.1 0).bind fun b=>
 (zao a.1 1).bind fun c=>
 ((zao a.1 2).bind (asI .i64)).bind fun d=>
 let e:SS:=a.2.new (.cells [.slice none 0 0,.slice none 0 0] 0)
 let f:SS:=e.new (.cells [.int .i64 0,.int .i64 0] 0)
 (f.stV a.2.next 0 2 b).bind fun g=>
 (g.stV e.next 0 2 c).bind fun h=>
 (h.ldN a.2.next 0 2).bind fun i=>
 (cf 37 [i] h).bind fun j=>
 (zao j.1 0).bind fun k=>
 ((zao j.1 1).bind (asI .i64)).bind fun l=>
 cond (!(decide (d=0))) (
 some (.bool false,st.adv j.2.next)) (
 cond (!(decide (l=0))) (
 some (.bool false,st.adv j.2.next)) (
 (lf 6 [k,.int .i64 0] j.2).bind fun m=>
 cond (Nat.beq m.1 0) (
 (m.2.1[0]?).bind fun n=>
 (cf 38 [n] m.2.2).bind fun o=>
 ((some o.1).bind (asI .i64)).bind fun p=>
 cond (decide (p=2)) (
 (cf 39 [n,.agg #[.bool false,.int .i64 0,.int .i64 0]] o.2).bind fun q=>
 ((some q.1).bind asB).bind fun r=>
 cond r (
 (cf 38 [n] q.2).bind fun s=>
 ((some s.1).bind (asI .i64)).bind fun t=>
 cond (decide (t=0)) (
 some (.bool true,st.adv s.2.next)) (
 some (.bool false,st.adv s.2.next))) (
 some (.bool false,st.adv q.2.next))) (
 some (.bool false,st.adv o.2.next))) (
 ((m.2.1[0]?).bind asB).bind fun u=>
 some (.bool u,st.adv m.2.2.next))))
noncomputable abbrev za7:zab:=lS Tryz.prog Lk0 Tryz.f35 zeT
theorem zik:Lk0.func 35=some (35,Tryz.f35):=by kernel_rfl
theorem zil [Sym] (st:SS) {r:Value×SS} (h:zfJ cc za7 st=some r):cc 35 [] st=some r:=
 zaf (li:=zeT) zai zal zik rfl (fun _=>rfl) (.trans (by kernel_rfl) h)
noncomputable def zeU (cf:zaj) (lf:zab) (s':Value) (i':Int) (st:SS):Option (Nat×List Value×SS):=
 cond (decide (i'<3)) (
 (cf 39 [s',.agg #[.bool false,.int .i64 0,.int .i64 0]] st).bind fun a=>
 ((some a.1).bind asB).bind fun b=>
 cond b (
 some (1,[.bool false],a.2)) (
 let c:Int:=IntKind.wrap .i64 (i'+1)
 lf 6 [s',.int .i64 c] a.2)) (
 some (0,[s'],st))
theorem zea [Sym] (s':Value) (i':Int) (st:SS) {r:Nat×List Value×SS} (h:zeU cc za7 s' i' st=some r):za7 6 [s',.int .i64 i'] st=some r:=
 zas zai zal (key:=6) (I:=zeA) rfl (by kernel_rfl) (by kernel_rfl) rfl rfl (.trans (by kernel_rfl) h)
end Go.Proofs.YtifploedaacedaaGreatDoorE
namespace Go.Proofs.YtifploedaacedaaGreatDoorE
set_option maxRecDepth 1000000
open Go Go.E Go.Proofs
def toU (ws:List Wd):List Nat:=ws.map fun w=>(zfz w).toNat
theorem zvD (ws:List Wd):(toU ws).length=ws.length:=by simp [toU]
theorem pk_u:∀ {ws:List Wd},(∀ w∈ws,zii w)→rowsF zdJ ws=rowsF uRow (toU ws)
 | [],_=>rfl
 | w::r,h=>by
   obtain ⟨X,hX⟩:=zor (h w (by simp))
   have e:toU (w::r)=X::toU r:=by unfold toU;rw [List.map_cons,hX];rfl
   rw [e,zbE,zbE,pk_u fun w hw=>h w (by simp [hw])]
   unfold zdJ uRow
   rw [hX]
theorem toU_lt {ws:List Wd} (h:∀ w∈ws,zii w):∀ X∈toU ws,X<2^64:=by
 intro X hX
 obtain ⟨w,hw,rfl⟩:=List.mem_map.1 hX
 obtain ⟨Y,hY⟩:=zor (h w hw)
 rw [hY,Int.toNat_natCast]
 exact (zuA (h w hw) hY).2
theorem zvE {s1:SS} (hl:s1.lim≤s1.next) {wv ev:Value} (h1:one wv=true) (h2:one ev=true) (e:Nat×Nat):
  ∃ s7 s8,((s1.new (.cells [zaR,zaR] 0)).new (.cells [.int .i64 0,.int .i64 0] 0)).stV s1.next 0 2 (zcT wv ev)=some s7∧s7.stV (s1.new (.cells [zaR,zaR] 0)).next 0 2 (zbA e)=some s8∧At s8 s1.next [wv,ev]∧Ext s1 s8∧s1.next<s8.next:=by
 have x1:Ext s1 (s1.new (.cells [zaR,zaR] 0)):=(Ext.refl _).new _
 have x2:Ext (s1.new (.cells [zaR,zaR] 0)) ((s1.new (.cells [zaR,zaR] 0)).new (.cells [.int .i64 0,.int .i64 0] 0)):=(Ext.refl _).new _
 have a1:At ((s1.new (.cells [zaR,zaR] 0)).new (.cells [.int .i64 0,.int .i64 0] 0)) s1.next [zaR,zaR]:=(At.new hl _).ext x2
 have a2:At ((s1.new (.cells [zaR,zaR] 0)).new (.cells [.int .i64 0,.int .i64 0] 0)) (s1.next+1) [.int .i64 0,.int .i64 0]:=At.new (st:=s1.new (.cells [zaR,zaR] 0)) (x1.ll hl) _
 have hc:(zcT wv ev).cells.toList=[wv,ev]:=by show (Value.agg [wv,ev].toArray).cells.toList=_;exact zaB _
 have hc2:(zbA e).cells.toList=[.int .i64 e.1,.int .i64 e.2]:=zaB _
 obtain ⟨s7,e7,b7,m7,n7⟩:=a1.stV (k:=0) hc rfl (by simp [h1,h2]) (row':=[wv,ev]) rfl
 obtain ⟨s8,e8,b8,m8,n8⟩:=(a2.mod m7 (by simp)).stV (k:=0) hc2 rfl rfl (row':=[.int .i64 e.1,.int .i64 e.2]) rfl
 refine ⟨s7,s8,e7,e8,b7.mod m8 (by simp),(((Mod.ofExt (S:=[]) (x1.trans x2)).thenI m7 (.inl (zlr _))).thenI m8 (.inl (by omega))).toExt,?_⟩
 have h3:((s1.new (.cells [zaR,zaR] 0)).new (.cells [.int .i64 0,.int .i64 0] 0)).next=s1.next+2:=rfl
 omega
structure Sq (base:SS) (B b:Nat) (ws:List Nat) (E:List Int) (pc:Int) (ca:List Int) (s:SS):Prop where
 sq:∃ k,SqI B s b ws E pc k∧Stk B s k ca
 len:E.length=5
 hB:B≤s.next
 hl:s.lim≤B
 ext:Ext base s
 bb:base.next≤b
 hN:ws.length≤2048
theorem Sq.ofNew {base s':SS} {b:Nat} {v:Value} {ws:List Nat} {E:List Int} {pc:Int} (hE:E.length=5) (hN:ws.length≤2048) (x:Ext base s') (hb:base.next≤b) (a:At s' b (zbV v E pc zaR)) (o:Own (b+1) s' v (rowsF zcP ws) 12 ws.length):Sq base s'.next b ws E pc [] s':=
 ⟨⟨zaR,⟨v,a,a.2.1,o.rg,fun i l c e=>by
   obtain ⟨_,⟨rfl,_⟩ | ⟨i',rfl,_,_,h1,h2⟩⟩:=o
   ·cases e
   ·cases e;exact ⟨by omega,h2⟩⟩,Stk.nil⟩,hE,zlr _,by have:=a.2.1;have:=a.2.2;omega,x,hb,hN⟩
def inW (ws:List Nat) (pc:Int) (ca:List Int):Bool:=decide (0≤pc)&&(decide (pc<ws.length)&&decide (ca.length≤8))
section
variable {base s : SS} {B b : Nat} {ws : List Nat} {E : List Int} {pc : Int} {ca : List Int}
theorem Sq.next [Sym] (h:Sq base B b ws E pc ca s) (hi:inW ws pc ca=true) (is:Bool) (tb op:Int):
  ∃ s',cc 39 [ptr b 0,.agg #[.bool is,.int .i64 tb,.int .i64 op]] s=some (.bool (zcQ ws E pc ca is tb op).2.2,s')∧Sq base B b ws E (zcQ ws E pc ca is tb op).1 (zcQ ws E pc ca is tb op).2.1 s':=by
 unfold inW at hi
 simp only [zae,decide_eq_true_eq] at hi
 obtain ⟨k,h1,h2⟩:=h.sq
 obtain ⟨s',k',c,q1,q2,fr,nw⟩:=ztp h1 h.len h2 h.hB h.hl hi.2.2 hi.1 h.hN hi.2.1 is tb op
 have hbB:=h1.lt.2.1
 refine ⟨s',c,⟨k',q1,q2⟩,h.len,zlt h.hB fr.next,by rw [fr.lim];exact h.hl,⟨zlt h.ext.next fr.next,fr.lim.trans h.ext.lim,fun j hj=>?_⟩,h.bb,h.hN⟩
 have hb:=h.bb
 exact (fr.keep j (zll hj h.ext.next) (by omega) (h2.sep (by omega))).trans (h.ext.keep j hj)
theorem Sq.at [Sym] (h:Sq base B b ws E pc ca s):cc 38 [ptr b 0] s=some (.int .i64 pc,s):=by
 obtain ⟨k,h1,h2⟩:=h.sq
 exact zvB h1 h.len
theorem Sq.depth [Sym] (h:Sq base B b ws E pc ca s):cc 40 [ptr b 0] s=some (.int .i64 ca.length,s):=by
 obtain ⟨k,h1,h2⟩:=h.sq
 exact zrM h1 h.len h2
end
theorem zuD {ws:List Nat} {es:List En} {E:List Int} (h:newT ws es=some E):ws.length≤2048∧E.length=5:=by
 unfold newT at h
 cases hg:zij ws.length es&&ziI ws with
 | false=>rw [hg] at h;cases h
 | true=>
   rw [hg] at h
   rw [zae] at hg
   have h1:=hg.1
   unfold zij at h1
   simp only [zae,Nat.ble_eq] at h1
   exact ⟨h1.1,zma es zdo E h⟩
def zdR (t:List UInt8) (p:List Nat→List Int→Bool):Bool:=match znN t with
 | .error _=>false
 | .ok (ws,es)=>match newT (toU ws) es with
   | none=>false
   | some E=>p (toU ws) E
theorem zqJ [Sym] {st:SS} (hg:Gd st) (hl:st.lim≤st.next) {t:List UInt8} (ht:t.length≤65536) {p:List Nat→List Int→Bool} (h:zdR t p=true):
  ∃ s1 wv ev s7 s8 s10 b ws E,cc 16 [.string (mkS t)] st=some (.tuple #[zcT wv ev,zbA (0,0),.int .i64 0],s1)∧((s1.new (.cells [zaR,zaR] 0)).new (.cells [.int .i64 0,.int .i64 0] 0)).stV s1.next 0 2 (zcT wv ev)=some s7∧
   s7.stV (s1.new (.cells [zaR,zaR] 0)).next 0 2 (zbA (0,0))=some s8∧s8.ldN s1.next 0 2=some (zcT wv ev)∧cc 37 [zcT wv ev] s8=some (.tuple #[ptr b 0,.int .i64 0],s10)∧Sq st s10.next b ws E (E.getD 0 0) [] s10∧p ws E=true:=by
 unfold zdR at h
 have ha:=asm_ok hg hl (mkS t) ht
 rw [zbm] at ha
 cases hr:znN t with
 | error e=>rw [hr] at h;cases h
 | ok r=>
   obtain ⟨ws,es⟩:=r
   rw [hr] at h ha
   simp only at h
   obtain ⟨hwd,hwl⟩:=zvw hr
   obtain ⟨s1,wv,ev,c1,x1,o1,o2⟩:=ha
   obtain ⟨s7,s8,e7,e8,a8,x8,n8⟩:=zvE (x1.ll hl) o1.cell.2 o2.cell.2 (0,0)
   have hx8:=x1.trans x8
   have o1':Rg s8 wv (rowsF uRow (toU ws)) 1 (toU ws).length:=by rw [← pk_u hwd,zvD];exact (o1.ext x8).rg
   have o2':Rg s8 ev (rowsF zaZ es) 2 es.length:=(o2.ext x8).rg
   have hn:=zvA (hg.ext hx8) (hx8.ll hl) (toU_lt hwd) o1' o2'
   cases hq:newT (toU ws) es with
   | none=>rw [hq] at h;cases h
   | some E=>
     rw [hq] at h hn
     obtain ⟨hE,s10,b,v,x10,c10,hb,a10,o10⟩:=hn
     refine ⟨s1,wv,ev,s7,s8,s10,b,toU ws,E,c1,e7,e8,a8.ldN rfl,c10,Sq.ofNew hE (zuD hq).1 (hx8.trans x10) (by have:=hx8.next;omega) a10 o10,h⟩
def zpJ:List UInt8:=[46,101,110,116,114,121,32,102,101,116,99,104,10,46,101,110,116,114,121,32,111,112,101,114,97,110,100,10,46,101,110,116,114,121,32,98,114,97,110,99,104,10,46,101,110,116,114,121,32,102,97,117,108,116,10,46,101,110,116,114,121,32,105,110,116,101,114,114,117,112,116,10,102,101,116,99,104,58,32,115,101,113,61,110,101,120,116,10,111,112,101,114,97,110,100,58,32,115,101,113,61,106,109,112,32,116,111,61,102,97,117,108,116,10,98,114,97,110,99,104,58,32,115,101,113,61,101,110,100,10,102,97,117,108,116,58,32,115,101,113,61,106,109,112,32,116,111,61,98,114,97,110,99,104,10,105,110,116,101,114,114,117,112,116,58,32,115,101,113,61,101,110,100]
def nx0 (ws:List Nat) (E:List Int) (q:Int×List Int×Bool):Int×List Int×Bool:=zcQ ws E q.1 q.2.1 false 0 0
def ztq (ws:List Nat) (E:List Int):Bool:=
 let q0:Int×List Int×Bool:=(E.getD 0 0,[],false)
 let q1:=nx0 ws E q0
 let q2:=nx0 ws E q1
 let q3:=nx0 ws E q2
 let q4:=nx0 ws E q3
 inW ws q0.1 q0.2.1&&(inW ws q1.1 q1.2.1&&(inW ws q2.1 q2.2.1&&(inW ws q3.1 q3.2.1&&(!q1.2.2&&(!q2.2.2&&(!q3.2.2&&(decide (q3.1=2)&&(q4.2.2&&decide (q4.1=0)))))))))
theorem aliveQ:zdR zpJ ztq=true:=by kernel_rfl
end Go.Proofs.YtifploedaacedaaGreatDoorE
namespace Go.Proofs.YtifploedaacedaaGreatDoorE
set_option maxRecDepth 1000000
open Go Go.E Go.Proofs
theorem zjI [Sym] {base:SS} {B b:Nat} {ws:List Nat} {E:List Int} {q:Int×List Int×Bool} {s:SS} {i:Nat} (h:Sq base B b ws E q.1 q.2.1 s) (hi:i<3) (hq:inW ws q.1 q.2.1=true) (hn:(nx0 ws E q).2.2=false):
  ∃ s',Sq base B b ws E (nx0 ws E q).1 (nx0 ws E q).2.1 s'∧∀ r,za7 6 [ptr b 0,.int .i64 (i+1:Nat)] s'=some r→za7 6 [ptr b 0,.int .i64 i] s=some r:=by
 obtain ⟨s',c,h'⟩:=h.next hq false 0 0
 have hn':(zcQ ws E q.1 q.2.1 false 0 0).2.2=false:=hn
 rw [hn'] at c
 have h3:(i:Int)<3:=by omega
 have hw:=zaX (i:=i) (by omega)
 refine ⟨s',h',fun r hr=>zea _ _ s ?_⟩
 simp only [zeU,zdt h3,zct,c,zob,zah,zcf,hw]
 exact hr
theorem zvF [Sym] (st:SS) (hg:Gd st):∃ n,st.next≤n∧cc 35 [] st=some (.bool true,st.adv n):=by
 obtain ⟨s1,wv,ev,s7,s8,s10,b,ws,E,c1,e7,e8,l9,c10,q0,hp⟩:=zqJ (st:=st.ro st.next) hg.ro (zlr _) (t:=zpJ) (by decide) aliveQ
 unfold ztq at hp
 simp only [zae,Bool.not_eq_true',decide_eq_true_eq] at hp
 obtain ⟨i0,i1,i2,i3,f1,f2,f3,p3,f4,p4⟩:=hp
 obtain ⟨t1,q1,r1⟩:=zjI (i:=0) (q:=(E.getD 0 0,[],false)) q0 (by omega) i0 f1
 obtain ⟨t2,q2,r2⟩:=zjI (i:=1) q1 (by omega) i1 f2
 obtain ⟨t3,q3,r3⟩:=zjI (i:=2) q2 (by omega) i2 f3
 have r4:za7 6 [ptr b 0,.int .i64 (3:Nat)] t3=some (0,[ptr b 0],t3):=by
  refine zea _ _ t3 ?_
  rfl
 have f13:za7 6 [ptr b 0,.int .i64 0] s10=some (0,[ptr b 0],t3):=r1 _ (r2 _ (r3 _ r4))
 have c15:=q3.at
 obtain ⟨t4,c17,q4⟩:=q3.next i3 false 0 0
 have f4':(zcQ ws E (nx0 ws E (nx0 ws E (nx0 ws E (E.getD 0 0,[],false)))).1 (nx0 ws E (nx0 ws E (nx0 ws E (E.getD 0 0,[],false)))).2.1 false 0 0).2.2=true:=f4
 rw [f4'] at c17
 have c19:=q4.at
 have p4':(zcQ ws E (nx0 ws E (nx0 ws E (nx0 ws E (E.getD 0 0,[],false)))).1 (nx0 ws E (nx0 ws E (nx0 ws E (E.getD 0 0,[],false)))).2.1 false 0 0).1=0:=p4
 have b0:Nat.beq 0 0=true:=rfl
 have c1':cc 16 [.string (mkS zpJ)] (st.ro st.next)=_:=c1
 refine ⟨t4.next,q4.ext.next,zil st ?_⟩
 unfold zfJ
 refine zbi.2 ⟨_,c1',?_⟩
 refine zbi.2 ⟨_,rfl,?_⟩
 refine zbi.2 ⟨_,rfl,?_⟩
 refine zbi.2 ⟨_,rfl,?_⟩
 refine zbi.2 ⟨_,e7,?_⟩
 refine zbi.2 ⟨_,e8,?_⟩
 refine zbi.2 ⟨_,l9,?_⟩
 refine zbi.2 ⟨_,c10,?_⟩
 refine zbi.2 ⟨_,rfl,?_⟩
 refine zbi.2 ⟨_,rfl,?_⟩
 simp only [decide_true,znt,zcf]
 refine zbi.2 ⟨_,f13,?_⟩
 simp only [b0,zct,zgz,zob,c15,zaa,zdt p3,c17,zah,c19,zdt p4']
def zcG:List UInt8:=[46,101,110,116,114,121,32,102,101,116,99,104,10,46,101,110,116,114,121,32,111,112,101,114,97,110,100,10,46,101,110,116,114,121,32,98,114,97,110,99,104,10,46,101,110,116,114,121,32,102,97,117,108,116,10,46,101,110,116,114,121,32,105,110,116,101,114,114,117,112,116,10,111,112,101,114,97,110,100,58,32,115,101,113,61,101,110,100,10,98,114,97,110,99,104,58,32,115,101,113,61,101,110,100,10,102,97,117,108,116,58,32,115,101,113,61,101,110,100,10,105,110,116,101,114,114,117,112,116,58,32,115,101,113,61,101,110,100,10,102,101,116,99,104,58,32,115,101,113,61,99,97,108,108,32,116,111,61,102,101,116,99,104,43,50,10,32,115,101,113,61,101,110,100,10]
def c_call:List UInt8:=[32,115,101,113,61,99,97,108,108,32,116,111,61,102,101,116,99,104,43]
def zhx:List UInt8:=[10,32,115,101,113,61,114,101,116,10]
def zhy:List UInt8:=[32,115,101,113,61,114,101,116,10]
def zcj (deep:Nat):Nat→Nat→List UInt8
 | 0,_=>[]
 | k+1,i=>(cond (Nat.blt (i+1) deep) (c_call++([UInt8.ofNat (48+(4+2*i)/10),UInt8.ofNat (48+(4+2*i)%10)]++zhx)) zhy)++zcj deep k (i+1)
theorem zna (deep:Nat):∀ k i,(zcj deep k i).length≤31*k
 | 0,_=>zlr _
 | k+1,i=>by
   have:=zna deep k (i+1)
   unfold zcj
   rw [List.length_append]
   have h:(cond (Nat.blt (i+1) deep) (c_call++([UInt8.ofNat (48+(4+2*i)/10),UInt8.ofNat (48+(4+2*i)%10)]++zhx)) zhy).length≤31:=by
    cases Nat.blt (i+1) deep with
    | false=>exact Nat.le_of_ble_eq_true rfl
    | true=>exact Nat.le_of_ble_eq_true rfl
   omega
theorem u8_two {st:SS} {a b:Nat} (ha:a<256) (hb:b<256):(st.new (.cells [.int .u8 (a:Int),.int .u8 (b:Int)] 1)).bytes (.slice (some ⟨st.next,0,none⟩) 2 2)=some (mkS [UInt8.ofNat a,UInt8.ofNat b]):=by
 refine zpX (z:=1) SS.new_get rfl ?_
 simp only [zfj,Option.map_some,Int.toNat_natCast]
theorem zrN [Sym] (deep:Nat) (hd:deep≤8):∀ (k i:Nat) (p:List UInt8) (s:SS),deep=k+i→p.length+31*k≤60000→∃ s',Ext s s'∧zaz 7 [.int .i64 deep,.string (mkS p),.int .i64 i] s=some (0,[.int .i64 deep,.string (mkS (p++zcj deep k i))],s'):=by
 intro k
 induction k with
 | zero=>
   intro i p s hk hp
   have h:¬ (i:Int)<(deep:Int):=by omega
   refine ⟨s,Ext.refl _,zbY _ _ _ s ?_⟩
   simp only [zbG,zdf h,zcf,zcj,List.append_nil]
 | succ k ih=>
   intro i p s hk hp
   have h:(i:Int)<(deep:Int):=by omega
   have hw1:=zaX (i:=i) (by omega)
   by_cases hq:i+1<deep
   ·have hq1:((i+1:Nat):Int)<(deep:Int):=by omega
    have hqb:Nat.blt (i+1) deep=true:=by rw [Nat.blt_eq];exact hq
    have w2:IntKind.wrap .i64 (2*(i:Int))=((2*i:Nat):Int):=by rw [wrap64 (by omega) (by omega)];omega
    have w3:IntKind.wrap .i64 (4+((2*i:Nat):Int))=((4+2*i:Nat):Int):=by rw [wrap64 (by omega) (by omega)];omega
    have t5:Int.tdiv ((4+2*i:Nat):Int) 10=(((4+2*i)/10:Nat):Int):=by rw [Int.tdiv_eq_ediv_of_nonneg (by omega)];omega
    have w5:IntKind.wrap .i64 (((4+2*i)/10:Nat):Int)=(((4+2*i)/10:Nat):Int):=wrap64 (by omega) (by omega)
    have w6:IntKind.wrap .i64 (48+(((4+2*i)/10:Nat):Int))=((48+(4+2*i)/10:Nat):Int):=by rw [wrap64 (by omega) (by omega)];omega
    have w7:IntKind.wrap .u8 ((48+(4+2*i)/10:Nat):Int)=((48+(4+2*i)/10:Nat):Int):=zgf (by omega) (by omega)
    have t8:Int.tmod ((4+2*i:Nat):Int) 10=(((4+2*i)%10:Nat):Int):=by rw [Int.tmod_eq_emod_of_nonneg (by omega)];omega
    have w9:IntKind.wrap .i64 (48+(((4+2*i)%10:Nat):Int))=((48+(4+2*i)%10:Nat):Int):=by rw [wrap64 (by omega) (by omega)];omega
    have w10:IntKind.wrap .u8 ((48+(4+2*i)%10:Nat):Int)=((48+(4+2*i)%10:Nat):Int):=zgf (by omega) (by omega)
    have y4:zgq (mkS p) ⟨#[32,115,101,113,61,99,97,108,108,32,116,111,61,102,101,116,99,104,43]⟩=some (mkS (p++c_call)):=zmK (a:=p) (b:=c_call) (by have:c_call.length=19:=rfl;omega)
    have y12:=u8_two (st:=s) (a:=48+(4+2*i)/10) (b:=48+(4+2*i)%10) (by omega) (by omega)
    have lc:c_call.length=19:=rfl
    have y13:=zmK (a:=p++c_call) (b:=[UInt8.ofNat (48+(4+2*i)/10),UInt8.ofNat (48+(4+2*i)%10)]) (by rw [List.length_append,lc];simp;omega)
    have y14:zgq (mkS (p++c_call++[UInt8.ofNat (48+(4+2*i)/10),UInt8.ofNat (48+(4+2*i)%10)])) ⟨#[10,32,115,101,113,61,114,101,116,10]⟩=some (mkS (p++c_call++[UInt8.ofNat (48+(4+2*i)/10),UInt8.ofNat (48+(4+2*i)%10)]++zhx)):=
     zmK (b:=zhx) (by have:zhx.length=10:=rfl;rw [List.length_append,List.length_append,lc];simp;omega)
    obtain ⟨s',f1,f2⟩:=ih (i+1) (p++c_call++[UInt8.ofNat (48+(4+2*i)/10),UInt8.ofNat (48+(4+2*i)%10)]++zhx) (s.new (.cells [.int .u8 ((48+(4+2*i)/10:Nat):Int),.int .u8 ((48+(4+2*i)%10:Nat):Int)] 1)) (by omega) (by have:zhx.length=10:=rfl;rw [List.length_append,List.length_append,List.length_append,lc,this];simp;omega)
    refine ⟨s',((Ext.refl s).new _).trans f1,zbY _ _ _ s ?_⟩
    unfold zcj
    rw [hqb]
    simp only [zbG,zdt h,zct,hw1,zdt hq1,w2,w3,t5,w5,w6,w7,t8,w9,w10,y4,zob,zac,y12,y13,y14]
    rw [f2]
    simp only [List.append_assoc]
   ·have hq1:¬ ((i+1:Nat):Int)<(deep:Int):=by omega
    have hqb:Nat.blt (i+1) deep=false:=by rw [Bool.eq_false_iff];intro hh;rw [Nat.blt_eq] at hh;exact hq hh
    have y16:zgq (mkS p) ⟨#[32,115,101,113,61,114,101,116,10]⟩=some (mkS (p++zhy)):=zmK (a:=p) (b:=zhy) (by have:zhy.length=9:=rfl;omega)
    obtain ⟨s',f1,f2⟩:=ih (i+1) (p++zhy) s (by omega) (by have:zhy.length=9:=rfl;rw [List.length_append,this];omega)
    refine ⟨s',f1,zbY _ _ _ s ?_⟩
    unfold zcj
    rw [hqb]
    simp only [zbG,zdt h,zct,hw1,zdf hq1,zcf,y16,zob,zac]
    rw [f2]
    simp only [List.append_assoc]
abbrev Q:=Int×List Int×Bool
def upP (ws:List Nat) (E:List Int) (a:Int):Nat→Nat→Q→Option Q
 | 0,_,q=>some q
 | k+1,i,q=>cond (inW ws q.1 q.2.1&&(decide ((nx0 ws E q).2.1.length=i+1)&&decide ((nx0 ws E q).1=a+2+2*(i:Int)))) (upP ws E a k (i+1) (nx0 ws E q)) none
def dnP (ws:List Nat) (E:List Int):Nat→Q→Option Q
 | 0,q=>some q
 | k+1,q=>cond (inW ws q.1 q.2.1&&decide ((nx0 ws E q).2.1.length=k)) (dnP ws E k (nx0 ws E q)) none
def zeV (deep:Nat) (ws:List Nat) (E:List Int):Bool:=
 inW ws (E.getD 0 0) []&&match upP ws E (E.getD 0 0) deep 0 (E.getD 0 0,[],false) with
 | none=>false
 | some q=>match dnP ws E deep q with
   | none=>false
   | some q=>decide (q.1=E.getD 0 0+1)&&(inW ws q.1 q.2.1&&((nx0 ws E q).2.2&&decide ((nx0 ws E q).1=E.getD 0 0)))
theorem zvG:zdR (zcG++zcj 1 1 0) (zeV 1)=true:=by kernel_rfl
theorem zvH:zdR (zcG++zcj 2 2 0) (zeV 2)=true:=by kernel_rfl
theorem zvI:zdR (zcG++zcj 3 3 0) (zeV 3)=true:=by kernel_rfl
theorem zvJ:zdR (zcG++zcj 4 4 0) (zeV 4)=true:=by kernel_rfl
theorem zvK:zdR (zcG++zcj 5 5 0) (zeV 5)=true:=by kernel_rfl
theorem zvL:zdR (zcG++zcj 6 6 0) (zeV 6)=true:=by kernel_rfl
theorem zvM:zdR (zcG++zcj 7 7 0) (zeV 7)=true:=by kernel_rfl
theorem zvN:zdR (zcG++zcj 8 8 0) (zeV 8)=true:=by kernel_rfl
theorem callsQ (d:Nat) (h1:1≤d) (h8:d≤8):zdR (zcG++zcj d d 0) (zeV d)=true:=by
 match d,h1,h8 with
 | 1,_,_=>exact zvG
 | 2,_,_=>exact zvH
 | 3,_,_=>exact zvI
 | 4,_,_=>exact zvJ
 | 5,_,_=>exact zvK
 | 6,_,_=>exact zvL
 | 7,_,_=>exact zvM
 | 8,_,_=>exact zvN
 | d+9,_,h=>omega
section
variable {base : SS} {B b : Nat} {ws : List Nat} {E : List Int}
theorem zvO [Sym] {a:Int} (ha:0≤a) (ha2:a≤100000) (deep:Nat) (hd:deep≤8):∀ (k i:Nat) (q qf:Q) (s:SS),deep=k+i→Sq base B b ws E q.1 q.2.1 s→upP ws E a k i q=some qf→
  ∃ s',Sq base B b ws E qf.1 qf.2.1 s'∧zaz 19 [.int .i64 deep,ptr b 0,.int .i64 a,.int .i64 i] s=some (0,[.int .i64 deep,ptr b 0,.int .i64 a],s'):=by
 intro k
 induction k with
 | zero=>
   intro i q qf s hk hs hq
   cases hq
   have h:¬ (i:Int)<(deep:Int):=by omega
   refine ⟨s,hs,zc8 _ _ _ _ s ?_⟩
   simp only [zch,zdf h,zcf]
 | succ k ih=>
   intro i q qf s hk hs hq
   have h:(i:Int)<(deep:Int):=by omega
   unfold upP at hq
   cases hb:(inW ws q.1 q.2.1&&(decide ((nx0 ws E q).2.1.length=i+1)&&decide ((nx0 ws E q).1=a+2+2*(i:Int)))) with
   | false=>rw [hb] at hq;cases hq
   | true=>
     rw [hb] at hq
     simp only [zae,decide_eq_true_eq] at hb
     obtain ⟨h1,h2,h3⟩:=hb
     obtain ⟨s1,c1,q1⟩:=hs.next h1 false 0 0
     have c3:=q1.depth
     have c6:=q1.at
     have hw1:=zaX (i:=i) (by omega)
     have h2':(((zcQ ws E q.1 q.2.1 false 0 0).2.1.length:Nat):Int)=((i+1:Nat):Int):=by have h2:(zcQ ws E q.1 q.2.1 false 0 0).2.1.length=i+1:=h2;rw [h2]
     have h3':(zcQ ws E q.1 q.2.1 false 0 0).1=a+2+2*(i:Int):=h3
     have w8:IntKind.wrap .i64 (a+2)=a+2:=wrap64 (by omega) (by omega)
     have w9:IntKind.wrap .i64 (2*(i:Int))=2*(i:Int):=wrap64 (by omega) (by omega)
     have w10:IntKind.wrap .i64 (a+2+2*(i:Int))=a+2+2*(i:Int):=wrap64 (by omega) (by omega)
     obtain ⟨s',f1,f2⟩:=ih (i+1) (nx0 ws E q) qf s1 (by omega) q1 hq
     refine ⟨s',f1,zc8 _ _ _ _ s ?_⟩
     simp only [zch,zdt h,zct,c1,zob,zah,c3,zaa,hw1,zdt h2',znt,zcf,c6,w8,w9,w10,zdt h3']
     exact f2
theorem zvP [Sym] {a:Int}:∀ (k:Nat) (q qf:Q) (s:SS),k≤8→Sq base B b ws E q.1 q.2.1 s→dnP ws E k q=some qf→
  ∃ s',Sq base B b ws E qf.1 qf.2.1 s'∧zaz 25 [ptr b 0,.int .i64 a,.int .i64 ((k:Int)-1)] s=some (0,[ptr b 0,.int .i64 a],s'):=by
 intro k
 induction k with
 | zero=>
   intro q qf s _ hs hq
   cases hq
   refine ⟨s,hs,zc9 _ _ _ s ?_⟩
   have h:¬ (0:Int)≤((0:Nat):Int)-1:=by omega
   simp only [zci,zdf h,zcf]
 | succ k ih=>
   intro q qf s hk hs hq
   have h:(0:Int)≤((k+1:Nat):Int)-1:=by omega
   unfold dnP at hq
   cases hb:(inW ws q.1 q.2.1&&decide ((nx0 ws E q).2.1.length=k)) with
   | false=>rw [hb] at hq;cases hq
   | true=>
     rw [hb] at hq
     simp only [zae,decide_eq_true_eq] at hb
     obtain ⟨h1,h2⟩:=hb
     obtain ⟨s1,c1,q1⟩:=hs.next h1 false 0 0
     have c3:=q1.depth
     have h2':(((zcQ ws E q.1 q.2.1 false 0 0).2.1.length:Nat):Int)=((k+1:Nat):Int)-1:=by have h2:(zcQ ws E q.1 q.2.1 false 0 0).2.1.length=k:=h2;rw [h2];omega
     have hw1:IntKind.wrap .i64 (((k+1:Nat):Int)-1-1)=(k:Int)-1:=by rw [wrap64 (by omega) (by omega)];omega
     obtain ⟨s',f1,f2⟩:=ih (nx0 ws E q) qf s1 (by omega) q1 hq
     refine ⟨s',f1,zc9 _ _ _ s ?_⟩
     simp only [zci,zdt h,zct,c1,zob,zah,c3,zaa,zdt h2',znt,zcf,hw1]
     exact f2
end
theorem useqCalls_ok [Sym] (d:Int):∃ st',cc 12 [.int .i64 d] st0=some (.bool true,st'):=by
 obtain ⟨N,hN,hal⟩:=zvF (st0.ro st0.next) gd0.ro
 have x1:Ext (st0.ro st0.next) ((st0.ro st0.next).adv N):=Ext.advR _ hN
 have hct:zcG.length≤1000:=by decide
 by_cases g1:d<1
 ·refine ⟨st0.adv N,zcn _ st0 ?_⟩
  simp only [zbZ,hal,zob,zah,znt,zcf,zdt g1,zct]
  rfl
 by_cases g2:8<d
 ·refine ⟨st0.adv N,zcn _ st0 ?_⟩
  simp only [zbZ,hal,zob,zah,znt,zcf,zdf g1,zdt g2,zct]
  rfl
 obtain ⟨deep,hd⟩:∃ deep:Nat,d=deep:=⟨d.toNat,by omega⟩
 subst hd
 obtain ⟨s3,x3,f3⟩:=zrN deep (by omega) deep 0 zcG ((st0.ro st0.next).adv N) rfl (by omega)
 have f3':zaz 7 [.int .i64 deep,.string (mkS zcG),.int .i64 0] ((st0.ro st0.next).adv N)=_:=f3
 have x03:=x1.trans x3
 have hl3:s3.lim≤s3.next:=x03.ll (zlr _)
 have hln:=zna deep deep 0
 obtain ⟨s1,wv,ev,s7,s8,s10,b,ws,E,c1,e7,e8,l9,c10,q0,hp⟩:=zqJ (st:=s3) (gd0.ro.ext x03) hl3 (t:=zcG++zcj deep deep 0) (by rw [List.length_append];omega) (callsQ deep (by omega) (by omega))
 unfold zeV at hp
 rw [zae] at hp
 obtain ⟨hi0,hp⟩:=hp
 cases hu:upP ws E (E.getD 0 0) deep 0 (E.getD 0 0,[],false) with
 | none=>rw [hu] at hp;cases hp
 | some q=>
   rw [hu] at hp
   simp only at hp
   cases hdn:dnP ws E deep q with
   | none=>rw [hdn] at hp;cases hp
   | some q2=>
     rw [hdn] at hp
     simp only [zae,decide_eq_true_eq] at hp
     obtain ⟨p1,p2,p3,p4⟩:=hp
     unfold inW at hi0
     simp only [zae,decide_eq_true_eq] at hi0
     have hN:=q0.hN
     have c18:=q0.at
     obtain ⟨s20,q20,f20⟩:=zvO (a:=E.getD 0 0) hi0.1 (by omega) deep (by omega) deep 0 (E.getD 0 0,[],false) q s10 rfl q0 hu
     have f20':zaz 19 [.int .i64 deep,ptr b 0,.int .i64 (E.getD 0 0),.int .i64 0] s10=_:=f20
     have w24:IntKind.wrap .i64 ((deep:Int)-1)=(deep:Int)-1:=wrap64 (by omega) (by omega)
     obtain ⟨s25,q25,f25⟩:=zvP (a:=E.getD 0 0) deep q q2 s20 (by omega) q20 hdn
     have c28:=q25.at
     have w30:IntKind.wrap .i64 (E.getD 0 0+1)=E.getD 0 0+1:=wrap64 (by omega) (by omega)
     obtain ⟨s31,c31,q31⟩:=q25.next p2 false 0 0
     have p3':(zcQ ws E q2.1 q2.2.1 false 0 0).2.2=true:=p3
     rw [p3'] at c31
     have c33:=q31.at
     have p4':(zcQ ws E q2.1 q2.2.1 false 0 0).1=E.getD 0 0:=p4
     have b0:Nat.beq 0 0=true:=rfl
     refine ⟨st0.adv s31.next,zcn _ st0 ?_⟩
     unfold zbZ
     simp only [hal,zob,zah,znt,zcf,zdf g1,zdf g2]
     refine zbi.2 ⟨_,f3',?_⟩
     simp only [zgz,zgs,zob,zaa,zac]
     refine zbi.2 ⟨_,c1,?_⟩
     refine zbi.2 ⟨_,rfl,?_⟩
     refine zbi.2 ⟨_,rfl,?_⟩
     refine zbi.2 ⟨_,rfl,?_⟩
     refine zbi.2 ⟨_,e7,?_⟩
     refine zbi.2 ⟨_,e8,?_⟩
     refine zbi.2 ⟨_,l9,?_⟩
     refine zbi.2 ⟨_,c10,?_⟩
     refine zbi.2 ⟨_,tup0 _ _,?_⟩
     refine zbi.2 ⟨_,rfl,?_⟩
     simp only [decide_true,znt,zcf,c18,zob,zaa]
     refine zbi.2 ⟨_,f20',?_⟩
     simp only [b0,zct,zgz,zgs,zob,zaa,w24]
     refine zbi.2 ⟨_,f25,?_⟩
     simp only [b0,zct,zgz,zgs,zob,zaa,c28,w30,zdt p1,c31,zah,c33,zdt p4']
end Go.Proofs.YtifploedaacedaaGreatDoorE
