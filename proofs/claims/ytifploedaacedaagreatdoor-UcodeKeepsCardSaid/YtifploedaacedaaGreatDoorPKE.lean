/- Parts of the proof of UcodeKeeps, packed by a program: an evaluator over the given code, functions as plain texts, their laws. -/
import Derived.Test.YtifploedaacedaaGreatDoorPKD
set_option linter.unusedVariables false
set_option linter.unusedSimpArgs false
namespace Go.Proofs.YtifploedaacedaaGreatDoorE
open Go Go.E Go.Proofs
theorem zmr {α:Type} {f:α→List Value} {z:Nat} (hz:∀ x,(f x).length=z) (x:α):∀ (l:List α) (k:Nat),k<l.length→(rowsF f l).take (k*z)++(f x++(rowsF f l).drop (k*z+z))=rowsF f (l.set k x)
 | [],k,h=>by simp at h
 | a::r,0,_=>by
   rw [zcr,List.set_cons_zero,zcr,Nat.zero_mul,List.take_zero,List.nil_append,Nat.zero_add,List.drop_append,hz,Nat.sub_self,List.drop_of_length_le (by rw [hz];exact zlr _)]
   simp
 | a::r,k+1,h=>by
   have ih:=zmr hz x r k (by simpa using h)
   have e1:(k+1)*z-z=k*z:=by rw [Nat.add_mul];omega
   have e2:(k+1)*z+z-z=k*z+z:=by rw [Nat.add_mul];omega
   have e3:z≤(k+1)*z:=by rw [Nat.add_mul];omega
   rw [zcr,List.set_cons_succ,zcr,List.take_append,List.drop_append,hz,e1,e2,List.take_of_length_le (by rw [hz];exact e3),List.drop_of_length_le (by rw [hz];omega),List.nil_append,List.append_assoc,ih]
theorem zq4 {α:Type} {f:α→List Value} {z:Nat} (hz:∀ x,(f x).length=z) (l:List α) (k:Nat) (x:α) (hk:k<l.length):zcm (rowsF f l) (k*z) (f x)=some (rowsF f (l.set k x)):=by
 have h1:(k+1)*z≤l.length*z:=Nat.mul_le_mul_right _ hk
 rw [Nat.add_mul,Nat.one_mul] at h1
 rw [zbr (by rw [hz,ziO hz];exact h1),hz,zmr hz x l k hk]
theorem Own.put {b:Nat} {st:SS} {v:Value} {α:Type} {f:α→List Value} {z:Nat} (hz:∀ x,(f x).length=z) {l:List α} {n:Nat} (h:Own b st v (rowsF f l) z n) (hn:l.length=n) (hl:st.lim≤b) {k:Nat} (hk:k<n) (x:α) (h1:(f x).all one=true):
  ∃ i st',zas v (k:Int) z=some (i,k*z)∧b≤i∧i<st.next∧st.st i (k*z) (f x)=some st'∧(∀ u:Value,u.cells.toList=f x→st.stV i (k*z) z u=some st')∧Own b st' v (rowsF f (l.set k x)) z n∧Mod [i] st st'∧st'.next=st.next:=by
 obtain ⟨h2,⟨rfl,h0⟩ | ⟨i,rfl,h0,hm,hb,hi⟩⟩:=h
 ·omega
 ·have hs:=SS.st_cells hm (by omega) h1 (zq4 hz l k x (by omega))
  refine ⟨i,_,?_,hb,hi,hs,fun u hu=>?_,⟨?_,.inr ⟨i,rfl,h0,by simp,hb,by simpa using hi⟩⟩,⟨zlr _,rfl,fun j hj hS=>SS.set_old (by simpa using hS)⟩,rfl⟩
  ·unfold zas
   simp [hk]
  ·unfold SS.stV
   have:u.cells.size=z:=by rw [← hz x,← hu];simp
   rw [this,hu,hs]
   simp
  ·rw [ziO hz,List.length_set,hn]
def zc2 (w:Wd):List Value:=[.int .u64 (zfG w)]
def zgF (e:List UInt8×Int):List Value:=[.string (mkS e.1),.int .i64 e.2]
abbrev NN:List Value:=[.slice none 0 0,.slice none 0 0]
abbrev Z2:List Value:=[.int .i64 0,.int .i64 0]
def inR (N:Nat) (T:List (Int×Int)):Bool:=T.any fun t=>decide ((N:Int)<t.1+t.2)
theorem zq5 {x:Int} {n:Nat}:fitsT x n=true↔0≤x∧x<2^n:=by unfold fitsT;rw [decide_eq_true_eq]
theorem znI {s tw a:Int} (ha:0≤a∧a≤4096) (ht:0≤tw∧tw<2048):∀ t∈zca s tw a,0≤t.1∧t.1≤100000∧0≤t.2∧t.2≤100000:=by
 intro t h
 unfold zca at h
 repeat' (split at h)
 all_goals first
  | (cases h;done)
  | (simp only [List.mem_cons,List.not_mem_nil,or_false] at h
     rcases h with rfl | rfl<;>simp only<;>omega)
  | (simp only [List.mem_cons,List.not_mem_nil,or_false] at h
     subst h
     simp only
     omega)
theorem zs7 {w:Wd} (h:zlM w):0≤w.getD 10 0∧w.getD 10 0<2048:=by
 have h1:=zmq.1 h.2 10 (by omega)
 have e:zaH 10=11:=rfl
 rw [zq5,e] at h1
 exact ⟨h1.1,by have:=h1.2;simpa using this⟩
theorem getD_some {w:Wd} {k:Nat} (h:k<w.length):w[k]?=some (w.getD k 0):=by
 rw [List.getD_eq_getElem?_getD,zge h];rfl
theorem zr7 [Sym] {base st0:SS} (hx0:Ext base st0) (hll:base.lim≤base.next) {T:List (Int×Int)} (hT:∀ t∈T,0≤t.1∧t.1≤100000∧0≤t.2∧t.2≤100000) (hTl:T.length≤10) {x:WItem} {b' w' t38 v wv ev:Value} {n j:Int} {t2 t3 r xb N:Nat}
  (hN:(lenV wv).bind (asI .i64)=some (N:Int)) (hr:At st0 r [wv,ev]) (a2:At st0 t2 NN) (a3:At st0 t3 Z2) (ax:At st0 xb (wdRow x)) (hne:t2≠t3) (h2:base.next≤t2) (h3:base.next≤t3) (hxb:xb≠t2) (p0:Pr) (ps:List Pr) (hps:x.2.1.prs=p0::ps) (hp:Rd base x.2.2.2 (rowsF prRow x.2.1.prs) 5 x.2.1.prs.length)
  (hv:Rd st0 v (rowsF zeu T) 2 T.length):∀ (k i:Nat) (s:SS),T.length=k+i→Ext st0 s→
  ∃ s',if inR N (T.drop i)=true then zaj 12 [b',ptr t2 0,ptr t3 0,ptr r 0,ptr xb 0,w',t38,.int .i64 n,.int .i64 j,v,.int .i64 T.length,.int .i64 i] s=some (1,[ptr t2 0,ptr t3 0],s')∧Ext base s'∧At s' t2 NN∧At s' t3 [.int .i64 x.2.1.ln,.int .i64 p0.col]
   else zaj 12 [b',ptr t2 0,ptr t3 0,ptr r 0,ptr xb 0,w',t38,.int .i64 n,.int .i64 j,v,.int .i64 T.length,.int .i64 i] s=some (0,[b',ptr t2 0,ptr t3 0,ptr r 0,ptr xb 0,w',t38,.int .i64 n,.int .i64 j],s')∧Ext st0 s':=by
 intro k
 induction k with
 | zero=>
   intro i s hk he
   have h:¬ (i:Int)<(T.length:Int):=by omega
   rw [List.drop_of_length_le (by omega)]
   refine ⟨s,?_⟩
   rw [if_neg (by simp [inR])]
   refine ⟨zcl _ _ _ _ _ _ _ _ _ _ _ _ s ?_,he⟩
   simp only [zb5,zdf h,zcf]
 | succ k ih=>
   intro i s hk he
   have h:(i:Int)<(T.length:Int):=by omega
   obtain ⟨t,ht⟩:∃ t,T[i]?=some t:=⟨_,zge (by omega)⟩
   obtain ⟨q1,q2,q3,q4⟩:=hT t (zmg ht)
   obtain ⟨p,b1,b2,_⟩:=(hv.ext he).load (j:=(i:Int)) (by omega) h (zbm (f:=zeu) (z:=2) (fun _=>rfl) T i t ht) rfl
   have b2':s.ldN p.1 p.2 2=some (.agg (zeu t).toArray):=b2
   have hlm:s.lim≤s.next:=((hx0.trans he).ll hll)
   obtain ⟨s4,e4,a4,x4,n4⟩:=za4 (st:=s) hlm (r:=Z2) (row:=zeu t) (v:=.agg (zeu t).toArray) (zaC _) rfl rfl rfl
   have e4':(s.new (.cells [.int .i64 0,.int .i64 0] 0)).stV s.next 0 2 (.agg (zeu t).toArray)=some s4:=e4
   have he4:=he.trans x4
   have c5:zbl (ptr s.next 0) 2 0 1=some (s.next,0):=rfl
   have c7:zbl (ptr s.next 0) 2 1 1=some (s.next,1):=rfl
   have l6:s4.ld s.next 0=some (.int .i64 t.1):=a4.ld
   have l8:s4.ld s.next 1=some (.int .i64 t.2):=a4.ld
   have hw9:IntKind.wrap .i64 (t.1+t.2)=t.1+t.2:=wrap64 (by omega) (by omega)
   have l11:s4.ld r 0=some wv:=(hr.ext he4).ld
   have hd:=drop_cons ht
   by_cases hc:(N:Int)<t.1+t.2
   ·obtain ⟨i15,z15,g1,g2,g3⟩:=hp.elem (j:=(0:Int)) (by omega) (by rw [hps];simp)
    obtain ⟨p17,f1,_,f3⟩:=((hp.ext hx0).ext he4).load (j:=(0:Int)) (by omega) (by rw [hps];simp) (row:=prRow p0) (by rw [hps];rfl) rfl
    have hp17:p17.1<base.next:=by rw [g1] at f1;cases f1;exact g3
    have l18:s4.ld p17.1 (p17.2+1)=some (.int .i64 p0.col):=f3 1 (by omega)
    have l14:s4.ld xb (0+1)=some (.int .i64 x.2.1.ln):=(ax.ext he4).ld
    have l16:s4.ld xb (0+1+4)=some x.2.2.2:=(ax.ext he4).ld
    have a24:=a2.ext he4
    have a34:=a3.ext he4
    obtain ⟨s20,e20,a20,m20,n20⟩:=a24.sto (k:=0) (vs:=NN) (row':=NN) rfl rfl
    obtain ⟨s22,e22,a22,m22,n22⟩:=(a34.mod m20 (by simpa using hne.symm)).sto (k:=0) (vs:=[.int .i64 x.2.1.ln,.int .i64 p0.col]) (row':=[.int .i64 x.2.1.ln,.int .i64 p0.col]) rfl rfl
    refine ⟨s22,?_⟩
    rw [if_pos (by unfold inR;rw [hd,List.any_cons,zdt hc];rfl)]
    refine ⟨zcl _ _ _ _ _ _ _ _ _ _ _ _ s ?_,zau (zau (hx0.trans he4) m20 h2) m22 h3,a20.mod m22 (by simpa using hne),a22⟩
    simp only [zb5,zdt h,zct,b1,b2',e4',c5,c7,l6,l8,zob,zaa,hw9,zaf,l11,hN,zdt hc,l14,l16,f1,l18,zcc hxb,zcc (show p17.1≠t2 by omega),e20,e22]
   ·obtain ⟨s',hs'⟩:=ih (i+1) s4 (by omega) he4
    have hw1:=zbf (i:=i) (by omega)
    refine ⟨s',?_⟩
    have e:inR N (T.drop i)=inR N (T.drop (i+1)):=by unfold inR;rw [hd,List.any_cons,zdf hc,Bool.false_or]
    rw [e]
    have go:∀ z,zaj 12 [b',ptr t2 0,ptr t3 0,ptr r 0,ptr xb 0,w',t38,.int .i64 n,.int .i64 j,v,.int .i64 T.length,.int .i64 ((i+1:Nat):Int)] s4=some z→zaj 12 [b',ptr t2 0,ptr t3 0,ptr r 0,ptr xb 0,w',t38,.int .i64 n,.int .i64 j,v,.int .i64 T.length,.int .i64 i] s=some z:=fun z hz=>by
     refine zcl _ _ _ _ _ _ _ _ _ _ _ _ s ?_
     simp only [zb5,zdt h,zct,b1,b2',e4',c5,c7,l6,l8,zob,zaa,hw9,zaf,l11,hN,zdf hc,zcf,hw1]
     exact hz
    split
    ·rename_i hh
     rw [if_pos hh] at hs'
     exact ⟨go _ hs'.1,hs'.2⟩
    ·rename_i hh
     rw [if_neg hh] at hs'
     exact ⟨go _ hs'.1,hs'.2⟩
theorem zr8 {M:Nat} {x:PLine} (h:LineOk M x) (hM:M≤1099511627776):zpy x.prs:=⟨zlt h.sp hM,fun p hp=>by
 obtain ⟨h1,h2,h3,h4⟩:=h.prs p hp
 exact ⟨h1,h2,by omega,by omega⟩⟩
def LayW (base:SS) (t2 t3 r N:Nat) (b' wv:Value) (res:Option (Nat×List Value×SS)):Except (Nat×Nat) (List Wd)→Prop
 | .error e=>∃ s',res=some (1,[ptr t2 0,ptr t3 0],s')∧Ext base s'∧At s' t2 NN∧At s' t3 [.int .i64 e.1,.int .i64 e.2]
 | .ok ws=>∃ s',res=some (0,[b',ptr t2 0,ptr t3 0,ptr r 0],s')∧Ext base s'∧At s' t2 NN∧At s' t3 Z2∧At s' r [wv,.slice none 0 0]∧Own (base.next+3) s' wv (rowsF zc2 ws) 1 N∧ws.length=N
theorem zs8 [Sym] {st0 base:SS} {B b i M:Nat} {vw ve vv wv:Value} {l:Lay} {its:List WItem} (hB:Bld st0 base B b i vw ve vv l its) (hL:LayOk M l) (hM:M≤100000) (hg:Gd base)
  (hN:(lenV wv).bind (asI .i64)=some ((sizeT l:Nat):Int)):∀ (k j:Nat) (ws:List Wd) (s:SS),its.length=k+j→ws.length=sizeT l→Ext base s→At s base.next NN→At s (base.next+1) Z2→At s (base.next+2) [wv,.slice none 0 0]→Own (base.next+3) s wv (rowsF zc2 ws) 1 (sizeT l)→
  LayW base base.next (base.next+1) (base.next+2) (sizeT l) (ptr b 0) wv (zaj 6 [ptr b 0,ptr base.next 0,ptr (base.next+1) 0,ptr (base.next+2) 0,vw,.int .i64 its.length,.int .i64 j] s) (zb1 l.nms (sizeT l) (l.wds.drop j) ws):=by
 have hll:base.lim≤base.next:=by rw [hB.ext.lim];have:=hB.ll;have:=hB.ext.next;omega
 have hil:its.length≤2048:=by
  have h1:=hL.wlen
  have h2:=hL.pl
  rw [← hB.wds,List.length_map] at h1
  omega
 obtain ⟨hat,hNb⟩:=zkf hL
 intro k
 induction k with
 | zero=>
   intro j ws s hk hws he a2 a3 ar ow
   have h:¬ (j:Int)<(its.length:Int):=by omega
   have hd:l.wds.drop j=[]:=List.drop_of_length_le (by rw [← hB.wds,List.length_map];omega)
   rw [hd]
   refine ⟨s,zbQ _ _ _ _ _ _ _ s ?_,he,a2,a3,ar,ow,hws⟩
   simp only [zbI,zdf h,zcf]
 | succ k ih=>
   intro j ws s hk hws he a2 a3 ar ow
   have h:(j:Int)<(its.length:Int):=by omega
   obtain ⟨x,hx⟩:∃ x,its[j]?=some x:=⟨_,zge (by omega)⟩
   have hwx:l.wds[j]?=some (x.1,x.2.1):=by rw [← hB.wds,List.getElem?_map,hx];rfl
   have hmem:=zmg hwx
   obtain ⟨hlo,hpne,hln⟩:=hL.prs _ hmem
   have hxat:x.1<sizeT l:=hat _ hmem
   have hd:=drop_cons hwx
   obtain ⟨p0,ps,hps⟩:∃ p0 ps,x.2.1.prs=p0::ps:=by
    cases hp:x.2.1.prs with
    | nil=>exact absurd hp hpne
    | cons a r=>exact ⟨a,r,rfl⟩
   have hsb:=hB.then he
   have hlm:s.lim≤s.next:=he.ll hll
   obtain ⟨p1,b1,b2,_⟩:=hsb.ow.rd.load (j:=(j:Int)) (by omega) h (zbm (f:=wdRow) (z:=6) (fun _=>rfl) its j x hx) rfl
   have b2':s.ldN p1.1 p1.2 6=some (.agg (wdRow x).toArray):=b2
   obtain ⟨s4,e4,a4,x4,n4⟩:=za4 (st:=s) hlm (r:=wdRow (0,⟨0,[],[],[],[]⟩,.slice none 0 0,.slice none 0 0)) (row:=wdRow x) (v:=.agg (wdRow x).toArray) (zaC _) rfl (by
    obtain ⟨hr1,hr2⟩:=hB.itr x (zmg hx)
    have o1:one x.2.2.1=true:=by obtain ⟨_,⟨e,_⟩ | ⟨i,c,e,_⟩⟩:=hr1<;>rw [e]<;>rfl
    have o2:one x.2.2.2=true:=by obtain ⟨_,⟨e,_⟩ | ⟨i,c,e,_⟩⟩:=hr2<;>rw [e]<;>rfl
    simp only [wdRow,lnRow,List.all_cons,List.all_nil,o1,o2]
    rfl) rfl
   have e4':(s.new (.cells [.int .i64 0,.int .i64 0,.string ⟨#[]⟩,.string ⟨#[]⟩,.slice none 0 0,.slice none 0 0] 0)).stV s.next 0 6 (.agg (wdRow x).toArray)=some s4:=e4
   have he4:=he.trans x4
   have hsb4:=hB.then he4
   have l5:s4.ldN s.next 1 5=some (.agg (lnRow x.2).toArray):=a4.ldC rfl
   have hpr:Rd st0 x.2.2.2 (rowsF prRow x.2.1.prs) 5 x.2.1.prs.length:=(hB.itr x (zmg hx)).2
   have hprb:=hpr.ext hB.ext
   obtain ⟨n6,u,hn6,hu,huo,c6⟩:=zqP l.nms hL.nms x.2 (zr8 hlo (by omega)) b i (.int .i64 l.pl) vw ve vv s4 (hg.ext he4) hsb4.row.1 hsb4.row.lt hsb4.mp (by have:=hsb4.iB;have:=hsb4.BN;omega) (hprb.ext he4)
   have x6:Ext s4 (s4.adv n6):=(Ext.refl _).adv hn6
   have he6:=he4.trans x6
   obtain ⟨s10,e10,a10,x10,n10⟩:=za4 (n:=12) (st:=s4.adv n6) (he6.ll hll) (r:=Z12) (row:=wRow u) (v:=wV u) (zaC _) (by rw [za8,hu]) (zf8 u) rfl
   have e10':((s4.adv n6).new (.cells [.int .i64 0,.int .i64 0,.int .i64 0,.int .i64 0,.int .i64 0,.int .i64 0,.int .i64 0,.int .i64 0,.int .i64 0,.int .i64 0,.int .i64 0,.int .i64 0] 0)).stV n6 0 12 (wV u)=some s10:=e10
   have he10:=he6.trans x10
   have he4_10:Ext s4 s10:=x6.trans x10
   have a4_10:=a4.ext he4_10
   have t0:∀ (a:Value) (z:Int),zal (.tuple #[a,.int .i64 z]) 0=some a:=fun _ _=>rfl
   have t1:∀ (a:Value) (z:Int),(zal (.tuple #[a,.int .i64 z]) 1).bind (asI .i64)=some z:=fun _ _=>rfl
   have hE:zb1 l.nms (sizeT l) (l.wds.drop j) ws=if (za0 l.nms zaK x.2.1.prs).2≠0 then .error (x.2.1.ln,(za0 l.nms zaK x.2.1.prs).2)
    else if inR (sizeT l) (zca ((za0 l.nms zaK x.2.1.prs).1.getD 8 0) ((za0 l.nms zaK x.2.1.prs).1.getD 10 0) x.1)=true then .error (x.2.1.ln,((x.2.1.prs.head?).map (·.col)).getD 0)
    else zb1 l.nms (sizeT l) (l.wds.drop (j+1)) (ws.set x.1 (za0 l.nms zaK x.2.1.prs).1):=by rw [hd];rfl
   have hlt2:base.next<s.next:=a2.lt
   have hlt3:base.next+1<s.next:=a3.lt
   by_cases hc:(za0 l.nms zaK x.2.1.prs).2=0
   ·rw [if_neg (fun hh=>hh hc)] at hE
    have hcz:¬ (0:Int)<(((za0 l.nms zaK x.2.1.prs).2:Nat):Int):=by omega
    have hue:=huo hc
    have hwok:=zoE l.nms x.2.1.prs
    generalize hw:(za0 l.nms zaK x.2.1.prs).1=w at*
    subst hue
    have l16:s10.ldN n6 0 12=some (wV u):=a10.ldN (by rw [za8,hu])
    have l17:s10.ld s.next 0=some (.int .i64 x.1):=a4_10.ld
    have hto:=zs7 hwok
    obtain ⟨v18,s18,c18,x18,o18⟩:=zrJ u (x.1:Int) (u.getD 8 0) (u.getD 10 0) (getD_some (by omega)) (getD_some (by omega)) (by omega) (by omega) s10 (he10.ll hll)
    have he18:=he10.trans x18
    have hT:=znI (s:=u.getD 8 0) (a:=(x.1:Int)) (by omega) hto
    have hTl:(zca (u.getD 8 0) (u.getD 10 0) (x.1:Int)).length≤10:=by
     unfold zca
     repeat' split
     all_goals simp
    obtain ⟨s20,h20⟩:=zr7 (b':=ptr b 0) (w':=ptr n6 0) (t38:=vw) (n:=its.length) (j:=j) he18 hll hT hTl (x:=x) (N:=sizeT l) hN (ar.ext ((x4.trans he4_10).trans x18)) (a2.ext ((x4.trans he4_10).trans x18)) (a3.ext ((x4.trans he4_10).trans x18)) (a4_10.ext x18) (by omega) (zlr _) (by omega) (by omega) p0 ps hps hprb o18.rd
     _ 0 s18 rfl (Ext.refl _)
    rw [List.drop_zero] at h20
    have hlen:(lenV v18).bind (asI .i64)=some ((zca (u.getD 8 0) (u.getD 10 0) (x.1:Int)).length:Int):=by rw [o18.len];rfl
    have b0:Nat.beq 0 0=true:=rfl
    have b1':Nat.beq 1 0=false:=rfl
    by_cases hr:inR (sizeT l) (zca (u.getD 8 0) (u.getD 10 0) (x.1:Int))=true
    ·rw [if_pos hr] at hE h20
     rw [hE]
     obtain ⟨g1,g2,g3,g4⟩:=h20
     have g1':zaj 12 [ptr b 0,ptr base.next 0,ptr (base.next+1) 0,ptr (base.next+2) 0,ptr s.next 0,ptr n6 0,vw,.int .i64 its.length,.int .i64 j,v18,.int .i64 (zca (u.getD 8 0) (u.getD 10 0) (x.1:Int)).length,.int .i64 0] s18=_:=g1
     refine ⟨s20,zbQ _ _ _ _ _ _ _ s ?_,g2,g3,by rw [hps];exact g4⟩
     simp only [zbI,zdt h,zct,b1,b2',e4',l5,c6,t0,t1,zob,SS.adv_next,e10',zdf hcz,zcf,l16,l17,zaa,c18,hlen]
     rw [g1',zob]
     simp only [b1',zcf,zob,zgs,zgz]
    ·rw [if_neg hr] at hE h20
     rw [hE]
     obtain ⟨g1,g2⟩:=h20
     have g1':zaj 12 [ptr b 0,ptr base.next 0,ptr (base.next+1) 0,ptr (base.next+2) 0,ptr s.next 0,ptr n6 0,vw,.int .i64 its.length,.int .i64 j,v18,.int .i64 (zca (u.getD 8 0) (u.getD 10 0) (x.1:Int)).length,.int .i64 0] s18=_:=g1
     have he20:=he18.trans g2
     have xs20:Ext s s20:=((x4.trans he4_10).trans x18).trans g2
     have l31:s20.ld (base.next+2) 0=some wv:=(ar.ext xs20).ld
     have l33:s20.ld s.next 0=some (.int .i64 x.1):=(a4_10.ext (x18.trans g2)).ld
     have l35:s20.ldN n6 0 12=some (wV u):=(a10.ext (x18.trans g2)).ldN (by rw [za8,hu])
     obtain ⟨n36,hn36,c36⟩:=zsP u hu (s20.ro s20.next) (hg.ext he20).ro
     rw [if_pos hwok.2] at c36
     have hn36':s20.next≤n36:=hn36
     have x36:Ext s20 (s20.adv n36):=(Ext.refl _).adv hn36'
     have hst:((s20.ro s20.next).adv n36).ro s20.lim=s20.adv n36:=rfl
     have u0:∀ (a:Int) (z:Int),(zal (.tuple #[.int .u64 a,.int .i64 z]) 0).bind (asI .u64)=some a:=fun _ _=>rfl
     have u1:∀ (a:Int) (z:Int),(zal (.tuple #[.int .u64 a,.int .i64 z]) 1).bind (asI .i64)=some z:=fun _ _=>rfl
     have he36:=he20.trans x36
     obtain ⟨iw,s40,f1,f2,f3,f4,_,f6,f7,f8⟩:=Own.put (f:=zc2) (fun _=>rfl) ((ow.ext xs20).ext x36) hws (by rw [he36.lim];omega) hxat u rfl
     rw [Nat.mul_one] at f1 f4
     have f4':(s20.adv n36).st iw x.1 [.int .u64 (zfG u)]=some s40:=f4
     have xs36:=xs20.trans x36
     have next:=ih (j+1) (ws.set x.1 u) s40 (by omega) (by rw [List.length_set,hws]) (zau he36 f7 (by omega)) ((a2.ext xs36).mod f7 (by simp;omega)) ((a3.ext xs36).mod f7 (by simp;omega)) ((ar.ext xs36).mod f7 (by simp;omega)) f6
     have hw1:=zbf (i:=j) (by omega)
     have step:∀ z,zaj 6 [ptr b 0,ptr base.next 0,ptr (base.next+1) 0,ptr (base.next+2) 0,vw,.int .i64 its.length,.int .i64 ((j+1:Nat):Int)] s40=some z→zaj 6 [ptr b 0,ptr base.next 0,ptr (base.next+1) 0,ptr (base.next+2) 0,vw,.int .i64 its.length,.int .i64 j] s=some z:=fun z hz=>by
      refine zbQ _ _ _ _ _ _ _ s ?_
      simp only [zbI,zdt h,zct,b1,b2',e4',l5,c6,t0,t1,zob,SS.adv_next,e10',zdf hcz,zcf,l16,l17,zaa,c18,hlen]
      rw [g1',zob]
      simp only [b0,zct,zaa,zob,zgs,zgz,zaf,l31,l33,l35,c36,u0,u1,hst,f1,f4',hw1]
      exact hz
     cases hz:zb1 l.nms (sizeT l) (l.wds.drop (j+1)) (ws.set x.1 u) with
     | error e=>
       rw [hz] at next
       obtain ⟨s',d1,d2⟩:=next
       exact ⟨s',step _ d1,d2⟩
     | ok ws'=>
       rw [hz] at next
       obtain ⟨s',d1,d2⟩:=next
       exact ⟨s',step _ d1,d2⟩
   ·rw [if_pos hc] at hE
    rw [hE]
    have hcz:(0:Int)<(((za0 l.nms zaK x.2.1.prs).2:Nat):Int):=by omega
    have xs10:Ext s s10:=x4.trans he4_10
    have l11:s10.ld s.next 1=some (.int .i64 x.2.1.ln):=a4_10.ld
    obtain ⟨s13,e13,a13,m13,n13⟩:=(a2.ext xs10).sto (k:=0) (vs:=NN) (row':=NN) rfl rfl
    obtain ⟨s15,e15,a15,m15,n15⟩:=((a3.ext xs10).mod m13 (by simp)).sto (k:=0) (vs:=[.int .i64 x.2.1.ln,.int .i64 (za0 l.nms zaK x.2.1.prs).2]) (row':=[.int .i64 x.2.1.ln,.int .i64 (za0 l.nms zaK x.2.1.prs).2]) rfl rfl
    refine ⟨s15,zbQ _ _ _ _ _ _ _ s ?_,zau (zau he10 m13 (zlr _)) m15 (by omega),a13.mod m15 (by simp),a15⟩
    simp only [zbI,zdt h,zct,b1,b2',e4',l5,c6,t0,t1,zob,SS.adv_next,e10',zdt hcz,l11,zaa,zcc (show s.next≠base.next by omega),zaf,e13,e15]
end Go.Proofs.YtifploedaacedaaGreatDoorE
namespace Go.Proofs.YtifploedaacedaaGreatDoorE
open Go Go.E Go.Proofs
def LayE (base:SS) (t2 t3 r N:Nat) (wv:Value) (ws:List Wd) (es:List (List UInt8×Int)) (res:Option (Nat×List Value×SS)):Except (Nat×Nat) (List (List UInt8×Int))→Prop
 | .error e=>∃ s',res=some (1,[ptr t2 0,ptr t3 0],s')∧Ext base s'∧At s' t2 NN∧At s' t3 [.int .i64 e.1,.int .i64 e.2]
 | .ok es'=>∃ s' ev',res=some (0,[ptr t2 0,ptr t3 0,ptr r 0],s')∧Ext base s'∧At s' t2 NN∧At s' t3 Z2∧At s' r [wv,ev']∧Owns (base.next+3) s' [⟨wv,rowsF zc2 ws,1,N⟩,⟨ev',rowsF zgF (es++es'),2,(es++es').length⟩]
theorem zr9 [Sym] {st0 base:SS} {B b i M N:Nat} {vw ve vv wv:Value} {l:Lay} {its:List WItem} (hB:Bld st0 base B b i vw ve vv l its) (hL:LayOk M l) (hn:l.ents.length≤100000) (ws:List Wd)
  (hN:(lenV wv).bind (asI .i64)=some (N:Int)):∀ (k j:Nat) (es:List (List UInt8×Int)) (ev:Value) (s:SS),l.ents.length=k+j→es.length≤j→Ext base s→At s base.next NN→At s (base.next+1) Z2→At s (base.next+2) [wv,ev]→Owns (base.next+3) s [⟨wv,rowsF zc2 ws,1,N⟩,⟨ev,rowsF zgF es,2,es.length⟩]→
  LayE base base.next (base.next+1) (base.next+2) N wv ws es (zaj 20 [ptr b 0,ptr base.next 0,ptr (base.next+1) 0,ptr (base.next+2) 0,vv,.int .i64 l.ents.length,.int .i64 j] s) (zdY l.nms N (l.ents.drop j)):=by
 have hll:base.lim≤base.next:=by rw [hB.ext.lim];have:=hB.ll;have:=hB.ext.next;omega
 intro k
 induction k with
 | zero=>
   intro j es ev s hk hes he a2 a3 ar ow
   have h:¬ (j:Int)<(l.ents.length:Int):=by omega
   rw [List.drop_of_length_le (by omega)]
   refine ⟨s,ev,zbg _ _ _ _ _ _ _ s ?_,he,a2,a3,ar,by rw [List.append_nil];exact ow⟩
   simp only [zbe,zdf h,zcf]
 | succ k ih=>
   intro j es ev s hk hes he a2 a3 ar ow
   have h:(j:Int)<(l.ents.length:Int):=by omega
   obtain ⟨e,hx⟩:∃ e,l.ents[j]?=some e:=⟨_,zge (by omega)⟩
   have hd:=drop_cons hx
   have hE:zdY l.nms N (l.ents.drop j)=match zbd l.nms e.1.nm with
    | none=>.error e.2
    | some x=>if x<0∨(N:Int)≤x then .error e.2 else match zdY l.nms N (l.ents.drop (j+1)) with
      | .error z=>.error z
      | .ok es=>.ok ((e.1.nm,x)::es):=by rw [hd];rfl
   have hsb:=hB.then he
   have hlm:s.lim≤s.next:=he.ll hll
   have ov:=hsb.ov
   rw [show l.ents.length=(l.ents.map (·.1)).length by simp] at ov
   have hmx:(l.ents.map (·.1))[j]?=some e.1:=by rw [List.getElem?_map,hx];rfl
   obtain ⟨p1,b1,b2,_⟩:=ov.rd.load (j:=(j:Int)) (by omega) (by simpa using h) (zbm (f:=valRow) (z:=3) (fun _=>rfl) _ j e.1 hmx) rfl
   have b2':s.ldN p1.1 p1.2 3=some (.agg (valRow e.1).toArray):=b2
   obtain ⟨s4,e4,a4,x4,n4⟩:=za4 (n:=3) (st:=s) hlm (r:=valRow ⟨[],0,0⟩) (row:=valRow e.1) (v:=.agg (valRow e.1).toArray) (zaC _) rfl rfl rfl
   have e4':(s.new (.cells [.string ⟨#[]⟩,.int .i64 0,.int .i64 0] 0)).stV s.next 0 3 (.agg (valRow e.1).toArray)=some s4:=e4
   have he4:=he.trans x4
   have hsb4:=hB.then he4
   have hnl:zar (ptr b 0)=some (ptr b 0):=rfl
   have l7:s4.ld b (0+1)=some (.map (some i)):=hsb4.row.ld
   have l8:s4.ld s.next 0=some (.string (mkS e.1.nm)):=a4.ld
   have l13:s4.ld b (0+3)=some ve:=hsb4.row.ld
   have m7:s4.mapF (.map (some i)) (mkS e.1.nm)=some ((zbd l.nms e.1.nm).map (.int .i64)):=by
    unfold SS.mapF
    simp only [hsb4.mp,zob,zkd]
   obtain ⟨p14,c1,c2,_⟩:=hsb4.oe.rd.load (j:=(j:Int)) (by omega) h (zbm (f:=entRow) (z:=2) (fun _=>rfl) l.ents j e hx) rfl
   have c2':s4.ldN p14.1 p14.2 2=some (.agg (entRow e).toArray):=c2
   have hp14:p14.1<base.next:=by
    obtain ⟨i',z',g1,g2,g3⟩:=hB.oe.rd.elem (j:=(j:Int)) (by omega) h
    rw [g1] at c1;cases c1;exact g3
   have hbt:b≠base.next:=by have:=hB.row.lt;omega
   have a24:=a2.ext x4
   have a34:=a3.ext x4
   obtain ⟨s17,e17,a17,m17,n17⟩:=a24.sto (k:=0) (vs:=NN) (row':=NN) rfl rfl
   obtain ⟨s19,e19,a19,m19,n19⟩:=(a34.mod m17 (by simp)).stV (k:=0) (n:=2) (v:=.agg (entRow e).toArray) (zaC _) rfl rfl (row':=entRow e) rfl
   have hbad:∀ z,z=some (1,[ptr base.next 0,ptr (base.next+1) 0],s19)→LayE base base.next (base.next+1) (base.next+2) N wv ws es z (.error e.2):=fun z hz=>⟨s19,hz,zau (zau he4 m17 (zlr _)) m19 (by omega),a17.mod m19 (by simp),a19⟩
   have hp2:zbp (ptr p14.1 p14.2) (ptr base.next 0)=true:=zcc (by omega)
   have hp1:zbp (ptr b (0+3)) (ptr base.next 0)=true:=zcc hbt
   rw [hE]
   cases hf:zbd l.nms e.1.nm with
   | none=>
     rw [hf] at m7
     refine hbad _ (zbg _ _ _ _ _ _ _ s ?_)
     simp only [zbe,zdt h,zct,b1,b2',e4',hnl,zaf,l7,l8,m7,zob,zab,Option.map_none,zeo,l13,c1,c2',hp1,hp2,e17,e19]
   | some y=>
     rw [hf] at m7
     have ht:(zal (.tuple #[.int .i64 y,.bool true]) 0).bind (asI .i64)=some y:=rfl
     by_cases hy:y<0
     ·simp only [if_pos (show y<0∨(N:Int)≤y from .inl hy)]
      refine hbad _ (zbg _ _ _ _ _ _ _ s ?_)
      simp only [zbe,zdt h,zct,b1,b2',e4',hnl,zaf,l7,l8,m7,zob,zab,Option.map_some,zeo,ht,zdt hy,l13,c1,c2',hp1,hp2,e17,e19]
     ·have l31:s4.ld (base.next+2) 0=some wv:=(ar.ext x4).ld
      by_cases hyN:(N:Int)≤y
      ·simp only [if_pos (show y<0∨(N:Int)≤y from .inr hyN)]
       refine hbad _ (zbg _ _ _ _ _ _ _ s ?_)
       simp only [zbe,zdt h,zct,b1,b2',e4',hnl,zaf,l7,l8,m7,zob,zab,Option.map_some,zeo,ht,zdf hy,zcf,l31,hN,zdt hyN,l13,c1,c2',hp1,hp2,e17,e19]
      ·simp only [if_neg (show ¬ (y<0∨(N:Int)≤y) by omega)]
       have l43:s4.ld (base.next+2) (0+1)=some ev:=(ar.ext x4).ld
       have hlt2:base.next+2<s.next:=ar.lt
       obtain ⟨q,s46,f1,f2,f3⟩:=(ow.ext x4).push (k:=1) (row:=zgF (e.1.nm,y)) (bt:=24) rfl (by have:=x4.next;omega) (by rw [he4.lim];omega) rfl (by omega) rfl (by omega) (by omega)
       have f1':(s4.new (.cells ([.string (mkS e.1.nm),.int .i64 y]) 2)).app 2 24 ev (.slice (some ⟨s4.next,0,none⟩) 1 1)=some (.slice (some ⟨q,0,none⟩) (es.length+1) (es.length+1),s46):=f1
       have ar46:At s46 (base.next+2) [wv,ev]:=(ar.ext x4).keepB f3 (by omega) (by simp)
       have a246:=a24.keepB f3 (by omega) (by simp)
       have a346:=a34.keepB f3 (by omega) (by simp)
       obtain ⟨s48,e48,a48,m48,n48⟩:=ar46.stV (k:=1) (n:=1) (v:=.slice (some ⟨q,0,none⟩) (es.length+1) (es.length+1)) (zjf _ _ _) rfl rfl (row':=[wv,.slice (some ⟨q,0,none⟩) (es.length+1) (es.length+1)]) rfl
       have e48':s46.stV (base.next+2) (0+1) 1 (.slice (some ⟨q,0,none⟩) (es.length+1) (es.length+1))=some s48:=e48
       have he46:Ext base s46:=⟨zlt he4.next f3.next,f3.lim.trans he4.lim,fun m hm=>(f3.keep m (by omega) (by simp)).trans (he4.keep m hm)⟩
       have hw1:=zbf (i:=j) (by omega)
       have ow48:=f2.modLt m48 (by intro m hm;have e:m=base.next+2:=(by simpa using hm);omega)
       have ow48':Owns (base.next+3) s48 [⟨wv,rowsF zc2 ws,1,N⟩,⟨.slice (some ⟨q,0,none⟩) (es.length+1) (es.length+1),rowsF zgF (es++[(e.1.nm,y)]),2,(es++[(e.1.nm,y)]).length⟩]:=by
        rw [zbR,zcN,List.length_append]
        exact ow48
       have next:=ih (j+1) (es++[(e.1.nm,y)]) _ s48 (by omega) (by simp;omega) (zau he46 m48 (by omega)) (a246.mod m48 (by simp)) (a346.mod m48 (by simp)) a48 ow48'
       have step:∀ z,zaj 20 [ptr b 0,ptr base.next 0,ptr (base.next+1) 0,ptr (base.next+2) 0,vv,.int .i64 l.ents.length,.int .i64 ((j+1:Nat):Int)] s48=some z→zaj 20 [ptr b 0,ptr base.next 0,ptr (base.next+1) 0,ptr (base.next+2) 0,vv,.int .i64 l.ents.length,.int .i64 j] s=some z:=fun z hz=>by
        refine zbg _ _ _ _ _ _ _ s ?_
        simp only [zbe,zdt h,zct,b1,b2',e4',hnl,zaf,l7,l8,m7,zob,zab,Option.map_some,zeo,ht,zdf hy,zcf,l31,hN,zdf hyN,l43,List.append_nil,f1',e48',hw1]
        exact hz
       cases hz:zdY l.nms N (l.ents.drop (j+1)) with
       | error z=>
         rw [hz] at next
         obtain ⟨s',d1,d2⟩:=next
         exact ⟨s',step _ d1,d2⟩
       | ok es'=>
         rw [hz] at next
         obtain ⟨s',ev',d1,d2,d3,d4,d5,d6⟩:=next
         refine ⟨s',ev',step _ d1,d2,d3,d4,d5,?_⟩
         rw [List.append_assoc] at d6
         exact d6
def zeZ (w e:Value):Value:=.agg #[w,e]
def LayR (base:SS) (res:Option (Value×SS)):Except (Nat×Nat) (List Wd×List (List UInt8×Int))→Prop
 | .error e=>∃ s',res=some (.tuple #[zeZ (.slice none 0 0) (.slice none 0 0),zbw e],s')∧Ext base s'∧e≠(0,0)
 | .ok (ws,es)=>∃ s' wv ev,res=some (.tuple #[zeZ wv ev,zbw (0,0)],s')∧Ext base s'∧Own base.next s' wv (rowsF zc2 ws) 1 ws.length∧Own base.next s' ev (rowsF zgF es) 2 es.length
theorem zlb {M:Nat} {nms:Nms} {N:Nat}:∀ (xs:List (Nat×PLine)) (ws:List Wd) (e:Nat×Nat),(∀ x∈xs,LineOk M x.2∧x.2.prs≠[]∧0<x.2.ln)→zb1 nms N xs ws=.error e→0<e.1
 | [],ws,e,_,h=>by cases h
 | x::r,ws,e,hx,h=>by
   unfold zb1 at h
   have:=(hx x (by simp)).2.2
   split at h
   ·cases h;exact this
   ·split at h
    ·cases h;exact this
    ·exact zlb r _ e (fun y hy=>hx y (by simp [hy])) h
theorem zms {nms:Nms} {N:Nat}:∀ (xs:List (Val×Nat×Nat)) (e:Nat×Nat),(∀ x∈xs,x.1.nm≠[]∧0<x.2.1∧0<x.2.2)→zdY nms N xs=.error e→0<e.1
 | [],e,_,h=>by cases h
 | x::r,e,hx,h=>by
   unfold zdY at h
   have:=(hx x (by simp)).2.1
   split at h
   ·cases h;exact this
   ·split at h
    ·cases h;exact this
    ·split at h
     ·rename_i hz
      cases h
      exact zms r _ (fun y hy=>hx y (by simp [hy])) hz
     ·cases h
theorem zpE:zfG zaK=0:=by decide+kernel
theorem zmt (n:Nat):rowsF zc2 (List.replicate n zaK)=List.replicate n (.int .u64 0):=by
 induction n with
 | zero=>rfl
 | succ n ih=>rw [List.replicate_succ,zcr,ih,List.replicate_succ];unfold zc2;rw [zpE];rfl
theorem zfM {nms:Nms} {N:Nat}:∀ (xs:List (Nat×PLine)) (ws ws':List Wd),zb1 nms N xs ws=.ok ws'→ws'.length=ws.length
 | [],ws,ws',h=>by cases h;rfl
 | x::r,ws,ws',h=>by
   unfold zb1 at h
   split at h
   ·cases h
   ·split at h
    ·cases h
    ·rw [zfM r _ ws' h,List.length_set]
theorem lay_ok [Sym] {st0 base:SS} {B b i M:Nat} {vw ve vv:Value} {l:Lay} {its:List WItem} (hB:Bld st0 base B b i vw ve vv l its) (hL:LayOk M l) (hM:M≤100000) (hn:l.ents.length≤100000) (hg:Gd base):
  LayR base (cc 44 [ptr b 0] base) (zgg l):=by
 have hll:base.lim≤base.next:=by rw [hB.ext.lim];have:=hB.ll;have:=hB.ext.next;omega
 have hil:its.length=l.wds.length:=by rw [← hB.wds,List.length_map]
 have hil2:its.length≤2048:=by
  have h1:=hL.wlen
  have h2:=hL.pl
  omega
 have x1:Ext base (base.new (.cells NN 0)):=(Ext.refl _).new _
 have x2:Ext (base.new (.cells NN 0)) ((base.new (.cells NN 0)).new (.cells Z2 0)):=(Ext.refl _).new _
 have x3:Ext ((base.new (.cells NN 0)).new (.cells Z2 0)) (((base.new (.cells NN 0)).new (.cells Z2 0)).new (.cells NN 0)):=(Ext.refl _).new _
 have a2:At (((base.new (.cells NN 0)).new (.cells Z2 0)).new (.cells NN 0)) base.next NN:=((At.new hll NN).ext x2).ext x3
 have a3:At (((base.new (.cells NN 0)).new (.cells Z2 0)).new (.cells NN 0)) (base.next+1) Z2:=(At.new (st:=base.new (.cells NN 0)) (x1.ll hll) Z2).ext x3
 have ar:At (((base.new (.cells NN 0)).new (.cells Z2 0)).new (.cells NN 0)) (base.next+2) NN:=At.new (st:=(base.new (.cells NN 0)).new (.cells Z2 0)) ((x1.trans x2).ll hll) NN
 have he3:Ext base (((base.new (.cells NN 0)).new (.cells Z2 0)).new (.cells NN 0)):=x1.trans (x2.trans x3)
 have hn1:(base.new (.cells NN 0)).next=base.next+1:=rfl
 have hn2:((base.new (.cells NN 0)).new (.cells Z2 0)).next=base.next+2:=rfl
 have hn3:(((base.new (.cells NN 0)).new (.cells Z2 0)).new (.cells NN 0)).next=base.next+3:=rfl
 generalize hs3:((base.new (.cells NN 0)).new (.cells Z2 0)).new (.cells NN 0)=s3 at*
 have hsb:=hB.then he3
 have hnl:zar (ptr b 0)=some (ptr b 0):=rfl
 have l6:s3.ld b (0+2)=some vw:=hsb.row.ld
 have hlen:(lenV vw).bind (asI .i64)=some (its.length:Int):=by rw [hB.ow.len];rfl
 have rest:∀ (s:SS) (wv:Value),Ext base s→At s base.next NN→At s (base.next+1) Z2→At s (base.next+2) [wv,.slice none 0 0]→Own (base.next+3) s wv (rowsF zc2 (List.replicate (sizeT l) zaK)) 1 (sizeT l)→
   LayR base ((zaj 6 [ptr b 0,ptr base.next 0,ptr (base.next+1) 0,ptr (base.next+2) 0,vw,.int .i64 its.length,.int .i64 0] s).bind fun r21=>cond (Nat.beq r21.1 0) (
  (r21.2.1[0]?).bind fun v22=>
  (r21.2.1[1]?).bind fun v23=>
  (r21.2.1[2]?).bind fun v24=>
  (r21.2.1[3]?).bind fun v25=>
  (zar v22).bind fun v26=>
  (addr? v26).bind fun p27=>
  (r21.2.2.ld p27.1 (p27.2+4)).bind fun v28=>
  ((lenV v28).bind (asI .i64)).bind fun n29=>
  (zaj 20 [v22,v23,v24,v25,v28,.int .i64 n29,.int .i64 0] r21.2.2).bind fun r30=>
  cond (Nat.beq r30.1 0) (
   (r30.2.1[0]?).bind fun v31=>
   (r30.2.1[1]?).bind fun v32=>
   (r30.2.1[2]?).bind fun v33=>
   (addr? v33).bind fun p34=>
   (r30.2.2.ldN p34.1 p34.2 2).bind fun v35=>
   (addr? v31).bind fun p36=>
   (r30.2.2.stV p36.1 p36.2 2 v35).bind fun st37=>
   (addr? v32).bind fun p38=>
   (st37.st p38.1 p38.2 [.int .i64 0,.int .i64 0]).bind fun st39=>
   (addr? v31).bind fun p40=>
   (st39.rdN p40.1 p40.2 2).bind fun v41=>
   (addr? v32).bind fun p42=>
   (st39.rdN p42.1 p42.2 2).bind fun v43=>
   some (.tuple #[v41,v43],st39)) (
   (r30.2.1[0]?).bind fun v44=>
   (r30.2.1[1]?).bind fun v45=>
   (addr? v44).bind fun p46=>
   (r30.2.2.rdN p46.1 p46.2 2).bind fun v47=>
   (addr? v45).bind fun p48=>
   (r30.2.2.rdN p48.1 p48.2 2).bind fun v49=>
   some (.tuple #[v47,v49],r30.2.2))) (
  (r21.2.1[0]?).bind fun v50=>
  (r21.2.1[1]?).bind fun v51=>
  (addr? v50).bind fun p52=>
  (r21.2.2.rdN p52.1 p52.2 2).bind fun v53=>
  (addr? v51).bind fun p54=>
  (r21.2.2.rdN p54.1 p54.2 2).bind fun v55=>
  some (.tuple #[v53,v55],r21.2.2))) (zgg l):=by
  intro s wv he b2 b3 br bo
  have hN:(lenV wv).bind (asI .i64)=some ((sizeT l:Nat):Int):=by rw [bo.len];rfl
  have hw:=zs8 hB hL hM hg hN its.length 0 (List.replicate (sizeT l) zaK) s rfl (by simp) he b2 b3 br bo
  rw [List.drop_zero] at hw
  have b0:Nat.beq 0 0=true:=rfl
  have b1:Nat.beq 1 0=false:=rfl
  unfold zgg
  cases hws:zb1 l.nms (sizeT l) l.wds (List.replicate (sizeT l) zaK) with
  | error e=>
    rw [hws] at hw
    obtain ⟨s',c1,c2,c3,c4⟩:=hw
    have c1':zaj 6 [ptr b 0,ptr base.next 0,ptr (base.next+1) 0,ptr (base.next+2) 0,vw,.int .i64 its.length,.int .i64 0] s=_:=c1
    have r1:=c3.rdN (n:=2) rfl
    have r2:=c4.rdN (n:=2) rfl
    refine ⟨s',?_,c2,fun hh=>by have:=zlb _ _ _ hL.prs hws;rw [hh] at this;omega⟩
    rw [c1',zob]
    simp only [b1,zcf,zgs,zgz,zob,zaf,r1,r2]
    rfl
  | ok ws=>
    rw [hws] at hw
    obtain ⟨s',c1,c2,c3,c4,c5,c6,c7⟩:=hw
    have c1':zaj 6 [ptr b 0,ptr base.next 0,ptr (base.next+1) 0,ptr (base.next+2) 0,vw,.int .i64 its.length,.int .i64 0] s=_:=c1
    have hsb':=hB.then c2
    have l28:s'.ld b (0+4)=some vv:=hsb'.row.ld
    have hlen2:(lenV vv).bind (asI .i64)=some (l.ents.length:Int):=by rw [hB.ov.len];rfl
    have ow:Owns (base.next+3) s' [⟨wv,rowsF zc2 ws,1,sizeT l⟩,⟨.slice none 0 0,rowsF zgF [],2,([]:List (List UInt8×Int)).length⟩]:=by
     refine ⟨fun k o ho=>?_,fun k m a b' j ha hb h1 h2=>?_⟩
     ·match k,ho with
      | 0,ho=>cases ho;exact c6
      | 1,ho=>cases ho;exact Own.nil _ _ _
      | k+2,ho=>simp at ho
     ·match k,m,ha,hb with
      | 0,0,_,_=>rfl
      | 1,1,_,_=>rfl
      | 0,1,_,hb=>cases hb;cases h2
      | 1,0,ha,_=>cases ha;cases h1
      | k+2,_,ha,_=>simp at ha
      | _,k+2,_,hb=>simp at hb
    have hen:=zr9 hB hL hn ws hN l.ents.length 0 [] _ s' rfl (by simp) c2 c3 c4 c5 ow
    rw [List.drop_zero] at hen
    rw [c1',zob]
    simp only [b0,zct,zgs,zgz,zob,hnl,zaf,l28,hlen2]
    cases hes:zdY l.nms (sizeT l) l.ents with
    | error e=>
      rw [hes] at hen
      obtain ⟨s2,d1,d2,d3,d4⟩:=hen
      have d1':zaj 20 [ptr b 0,ptr base.next 0,ptr (base.next+1) 0,ptr (base.next+2) 0,vv,.int .i64 l.ents.length,.int .i64 0] s'=_:=d1
      have r1:=d3.rdN (n:=2) rfl
      have r2:=d4.rdN (n:=2) rfl
      refine ⟨s2,?_,d2,fun hh=>by have:=zms _ _ hL.ent hes;rw [hh] at this;omega⟩
      rw [d1',zob]
      simp only [b1,zcf,zgs,zgz,zob,zaf,r1,r2]
      rfl
    | ok es=>
      rw [hes] at hen
      obtain ⟨s2,ev,d1,d2,d3,d4,d5,d6⟩:=hen
      have d1':zaj 20 [ptr b 0,ptr base.next 0,ptr (base.next+1) 0,ptr (base.next+2) 0,vv,.int .i64 l.ents.length,.int .i64 0] s'=_:=d1
      have l35:=d5.ldN (n:=2) rfl
      have o1:=d6.own 0 _ rfl
      have o2:=d6.own 1 _ rfl
      simp only [List.nil_append] at o2
      have w1:one wv=true:=(Own.cell o1).2
      have w2:one ev=true:=(Own.cell o2).2
      obtain ⟨s37,e37,a37,m37,n37⟩:=d3.stV (k:=0) (n:=2) (v:=.agg [wv,ev].toArray) (zaC _) rfl (by simp [w1,w2]) (row':=[wv,ev]) rfl
      obtain ⟨s39,e39,a39,m39,n39⟩:=(d4.mod m37 (by simp)).sto (k:=0) (vs:=Z2) (row':=Z2) rfl rfl
      have r1:=(a37.mod m39 (by simp)).rdN (n:=2) rfl
      have r2:=a39.rdN (n:=2) rfl
      have hlw:=zfM _ _ _ hws
      rw [List.length_replicate] at hlw
      have q1:∀ m,m∈[base.next]→m<base.next+3:=(by intro m hm;have e:m=base.next:=(by simpa using hm);omega)
      have q2:∀ m,m∈[base.next+1]→m<base.next+3:=(by intro m hm;have e:m=base.next+1:=(by simpa using hm);omega)
      refine ⟨s39,wv,ev,?_,zau (zau d2 m37 (zlr _)) m39 (by omega),?_,((o2.modLt m37 q1).modLt m39 q2).low (by omega)⟩
      ·rw [d1',zob]
       simp only [b0,zct,zgs,zgz,zob,zaf,l35,e37,e39,r1,r2]
       rfl
      ·rw [hlw]
       exact ((o1.modLt m37 q1).modLt m39 q2).low (by omega)
 by_cases hw0:0<its.length
 ·have hp:(0:Int)<(its.length:Int):=by omega
  obtain ⟨x,hx⟩:∃ x,its[its.length-1]?=some x:=⟨_,zge (by omega)⟩
  have hwx:l.wds.getLast?=some (x.1,x.2.1):=by
   rw [List.getLast?_eq_getElem?,← hB.wds,List.length_map,List.getElem?_map,hx];rfl
  have hsz:sizeT l=x.1+1:=by unfold sizeT;rw [hwx]
  have hszb:=(zkf hL).2
  have n11:IntKind.wrap .i64 ((its.length:Int)-1)=((its.length-1:Nat):Int):=by rw [wrap64 (by omega) (by omega)];omega
  obtain ⟨p12,b1,_,b3⟩:=hsb.ow.rd.load (j:=((its.length-1:Nat):Int)) (by omega) (by omega) (zbm (f:=wdRow) (z:=6) (fun _=>rfl) its (its.length-1) x hx) rfl
  have l13:s3.ld p12.1 p12.2=some (.int .i64 x.1):=b3 0 (by omega)
  have n14:IntKind.wrap .i64 ((x.1:Int)+1)=((sizeT l:Nat):Int):=by rw [wrap64 (by omega) (by omega),hsz];omega
  have hmk:zdW ((sizeT l:Nat):Int) ((sizeT l:Nat):Int) 8=some ():=zj6 (by omega) (by omega) (by omega)
  have x15:Ext s3 (s3.new (.cells (List.replicate (sizeT l) (.int .u64 0)) 1)):=(Ext.refl _).new _
  obtain ⟨s16,e16,a16,m16,n16⟩:=(ar.ext x15).sto (k:=0) (vs:=[.slice (some ⟨s3.next,0,none⟩) (sizeT l) (sizeT l)]) (row':=[.slice (some ⟨s3.next,0,none⟩) (sizeT l) (sizeT l),.slice none 0 0]) rfl rfl
  have ow16:Own (base.next+3) s16 (.slice (some ⟨s3.next,0,none⟩) (sizeT l) (sizeT l)) (rowsF zc2 (List.replicate (sizeT l) zaK)) 1 (sizeT l):=by
   refine ⟨by rw [zmt];simp,.inr ⟨s3.next,rfl,by omega,?_,by omega,by rw [n16];simp⟩⟩
   rw [zmt]
   exact m16.get (by simp) (by simp;omega) (SS.new_get)
  have hr:=rest s16 _ (zau (he3.trans x15) m16 (by omega)) ((a2.ext x15).mod m16 (by simp)) ((a3.ext x15).mod m16 (by simp)) a16 ow16
  have l19:s16.ld b (0+2)=some vw:=(hB.then (zau (he3.trans x15) m16 (by omega))).row.ld
  have hst:∀ z,z=zce cc zaj (ptr b 0) base→LayR base z (zgg l):=fun z hz=>by
   rw [hz]
   simp only [zce,hs3,hn1,hn2,hnl,zob,zaf,l6,hlen,zdt hp,zct,n11,b1,l13,zaa,n14,hmk,zhP,Int.toNat_natCast,e16,l19]
   exact hr
  have hfin:=hst _ rfl
  cases hro:zgg l with
  | error e=>
    rw [hro] at hfin
    obtain ⟨s',c,d⟩:=hfin
    exact ⟨s',zcj _ base c,d⟩
  | ok y=>
    obtain ⟨ws,es⟩:=y
    rw [hro] at hfin
    obtain ⟨s',wv,ev,c,d⟩:=hfin
    exact ⟨s',wv,ev,zcj _ base c,d⟩
 ·have hp:¬ (0:Int)<(its.length:Int):=by omega
  have hwn:l.wds=[]:=List.length_eq_zero_iff.1 (by omega)
  have hsz:sizeT l=0:=by unfold sizeT;rw [hwn];rfl
  have hr:=rest s3 (.slice none 0 0) he3 a2 a3 ar (by rw [hsz];exact Own.nil _ _ _)
  have hst:∀ z,z=zce cc zaj (ptr b 0) base→LayR base z (zgg l):=fun z hz=>by
   rw [hz]
   simp only [zce,hs3,hn1,hn2,hnl,zob,zaf,l6,hlen,zdf hp,zcf]
   exact hr
  have hfin:=hst _ rfl
  cases hro:zgg l with
  | error e=>
    rw [hro] at hfin
    obtain ⟨s',c,d⟩:=hfin
    exact ⟨s',zcj _ base c,d⟩
  | ok y=>
    obtain ⟨ws,es⟩:=y
    rw [hro] at hfin
    obtain ⟨s',wv,ev,c,d⟩:=hfin
    exact ⟨s',wv,ev,zcj _ base c,d⟩
end Go.Proofs.YtifploedaacedaaGreatDoorE
namespace Go.Proofs.YtifploedaacedaaGreatDoorE
open Go Go.E Go.Proofs
theorem zjQ (nms:Nms) (N:Nat):∀ (xs:List (Nat×PLine)) (ws:List Wd),(zla nms N xs).isSome=true→∃ ws',zb1 nms N xs ws=.ok ws'
 | [],ws,_=>⟨ws,rfl⟩
 | x::r,ws,h=>by
   unfold zla at h
   rw [zoI] at h
   unfold zb1
   cases he:za0 nms zaK x.2.prs with
   | mk w c=>
     rw [he] at h
     cases c with
     | succ c=>cases h
     | zero=>
       simp only at h ⊢
       rw [if_neg (by simp)]
       by_cases hr:((zca (w.getD 8 0) (w.getD 10 0) x.1).any fun t=>decide ((N:Int)<t.1+t.2))=true
       ·rw [if_pos hr] at h;cases h
       ·rw [if_neg hr] at h
        rw [if_neg hr]
        refine zjQ nms N r _ ?_
        cases hz:zla nms N r with
        | none=>rw [hz] at h;cases h
        | some l=>rfl
theorem zoJ (nms:Nms) (N:Nat):∀ (xs:List (Val×Nat×Nat)),(xs.all fun e=>match zbd nms e.1.nm with | none=>false | some x=>decide (0≤x)&&decide (x<(N:Int)))=true→∃ es,zdY nms N xs=.ok es∧es.map (·.1)=xs.map (·.1.nm)
 | [],_=>⟨[],rfl,rfl⟩
 | e::r,h=>by
   rw [List.all_cons,zae] at h
   obtain ⟨h1,h2⟩:=h
   obtain ⟨es,g1,g2⟩:=zoJ nms N r h2
   unfold zdY
   cases hf:zbd nms e.1.nm with
   | none=>rw [hf] at h1;cases h1
   | some x=>
     rw [hf] at h1
     simp only [zae,decide_eq_true_eq] at h1
     refine ⟨(e.1.nm,x)::es,?_,by simp [g2]⟩
     simp only
     rw [if_neg (by omega),g1]
theorem zs9:∃ ws es,ziZ zkg=.ok (ws,es)∧0<ws.length∧es.map (·.1)=znH:=by
 have h:=zpD
 unfold srcOk at h
 unfold ziZ
 cases hp:zfH zkg with
 | error e=>rw [hp] at h;cases h
 | ok xs=>
   rw [hp] at h
   simp only at h ⊢
   cases hl:zfm zfn xs with
   | error e=>rw [hl] at h;cases h
   | ok l=>
     rw [hl] at h
     simp only at h ⊢
     unfold zq3 at h
     simp only [zae] at h
     obtain ⟨⟨⟨h1,h2⟩,h3⟩,h4⟩:=h
     obtain ⟨ws,g1⟩:=zjQ l.nms (sizeT l) l.wds (List.replicate (sizeT l) zaK) h2
     obtain ⟨es,g2,g3⟩:=zoJ l.nms (sizeT l) l.ents h4
     refine ⟨ws,es,?_,?_,?_⟩
     ·unfold zgg
      rw [g1]
      simp only
      rw [g2]
     ·rw [zfM _ _ _ g1,List.length_replicate]
      exact Nat.le_of_ble_eq_true h1
     ·rw [g3]
      exact of_decide_eq_true h3
end Go.Proofs.YtifploedaacedaaGreatDoorE
namespace Go.Proofs.YtifploedaacedaaGreatDoorE
set_option maxRecDepth 20000
open Go Go.E Go.Proofs
noncomputable def zmO (cf:zak) (lf:zac) (st:SS):Option (Value×SS):=
 let st1:SS:=st.new (.cells ([.string ⟨#[105,108,108,101,103,97,108]⟩,.string ⟨#[104,97,108,116]⟩,.string ⟨#[110,111,112]⟩,.string ⟨#[114,101,105]⟩,.string ⟨#[98,112,116]⟩,.string ⟨#[114,101,116]⟩,.string ⟨#[114,115,98]⟩,.string ⟨#[98,115,98]⟩,.string ⟨#[98,114]⟩,.string ⟨#[98,99,99]⟩,.string ⟨#[106,115,98]⟩,.string ⟨#[106,117,109,112]⟩,.string ⟨#[111,110,101]⟩,.string ⟨#[111,110,101]⟩,.string ⟨#[116,119,111]⟩,.string ⟨#[116,119,111]⟩,.string ⟨#[116,115,116]⟩,.string ⟨#[112,97,105,114]⟩,.string ⟨#[99,118,116]⟩,.string ⟨#[99,118,116]⟩,.string ⟨#[109,111,118,97]⟩,.string ⟨#[112,117,115,104,97]⟩,.string ⟨#[112,117,115,104,108]⟩,.string ⟨#[97,115,104]⟩,.string ⟨#[114,111,116]⟩,.string ⟨#[98,108,98]⟩,.string ⟨#[98,98]⟩,.string ⟨#[97,111,98]⟩,.string ⟨#[115,111,98]⟩,.string ⟨#[101,120,116]⟩,.string ⟨#[105,110,115]⟩,.string ⟨#[99,97,108,108,115]⟩,.string ⟨#[112,117,115,104,114]⟩,.string ⟨#[112,111,112,114]⟩,.string ⟨#[109,111,118,112,115,108]⟩,.string ⟨#[98,105,115]⟩,.string ⟨#[98,105,99]⟩,.string ⟨#[99,104,109,107]⟩,.string ⟨#[109,116,112,114]⟩,.string ⟨#[109,102,112,114]⟩,.string ⟨#[109,111,118,99,51]⟩,.string ⟨#[109,111,118,99,53]⟩,.string ⟨#[99,109,112,99,51]⟩,.string ⟨#[99,109,112,99,53]⟩,.string ⟨#[108,111,99,99]⟩,.string ⟨#[108,111,99,99]⟩]) 1)
 some (.slice (some ⟨st.next,0,none⟩) 46 46,st1)
noncomputable abbrev zki:zac:=lS Tryz.prog Lk0 Tryz.f84 zaw
theorem zkj:Lk0.func 84=some (84,Tryz.f84):=by kernel_rfl
theorem zkk [Sym] (st:SS) {r:Value×SS} (h:zmO cc zki st=some r):cc 84 [] st=some r:=
 zad (li:=zaw) zai zaq zkj rfl (fun _=>rfl) (.trans (by kernel_rfl) h)
noncomputable def zoe (cf:zak) (lf:zac) (st:SS):Option (Value×SS):=
 let st1:SS:=st.new (.cells ([.string ⟨#[109,111,118,99,51,115]⟩,.string ⟨#[109,111,118,99,53,115]⟩,.string ⟨#[99,109,112,99,51,115]⟩,.string ⟨#[99,109,112,99,53,115]⟩,.string ⟨#[108,111,99,99,115]⟩,.string ⟨#[115,107,112,99,115]⟩]) 1)
 some (.slice (some ⟨st.next,0,none⟩) 6 6,st1)
noncomputable abbrev zlO:zac:=lS Tryz.prog Lk0 Tryz.f85 zaw
theorem zlP:Lk0.func 85=some (85,Tryz.f85):=by kernel_rfl
theorem zlQ [Sym] (st:SS) {r:Value×SS} (h:zoe cc zlO st=some r):cc 85 [] st=some r:=
 zad (li:=zaw) zai zaq zlP rfl (fun _=>rfl) (.trans (by kernel_rfl) h)
def zgG:LoopI:=⟨[(1,.int .i64),(2,.any),(7,.str),(12,.int .i64)],[(.exit 0,[(7,.str)])]⟩
def zhm (n:Nat):Option LoopI:=cond (Nat.beq n 3) (some zgG) (none)
noncomputable def zjR (cf:zak) (lf:zac) (name':ByteArray) (from0':Int) (labels':Value) (st:SS):Option (Value×SS):=
 (((zbJ name' ⟨#[58]⟩).bind fun s=>some (.string s)).bind asS).bind fun a=>
 (lf 3 [.int .i64 from0',labels',.string a,.int .i64 0] st).bind fun b=>
 ((b.2.1[0]?).bind asS).bind fun c=>
 some (.string c,b.2.2)
noncomputable abbrev zb9:zac:=lS Tryz.prog Lk0 Tryz.f83 zhm
theorem zlR:Lk0.func 83=some (83,Tryz.f83):=by kernel_rfl
theorem zlS [Sym] (name':ByteArray) (from0':Int) (labels':Value) (st:SS) {r:Value×SS} (h:zjR cc zb9 name' from0' labels' st=some r):cc 83 [.string name',.int .i64 from0',labels'] st=some r:=
 zad (li:=zhm) zai zaq zlR rfl (fun _=>rfl) (.trans (by kernel_rfl) h)
noncomputable def ze0 (cf:zak) (lf:zac) (from0':Int) (labels':Value) (s':ByteArray) (t12':Int) (st:SS):Option (Nat×List Value×SS):=
 cond (decide (t12'<64)) (
 cond (decide (from0'≤t12')) (
 let a:Int:=IntKind.wrap .i64 (t12'-from0')
 ((lenV labels').bind (asI .i64)).bind fun b=>
 cond (decide (a<b)) (
 let c:Int:=IntKind.wrap .i64 (t12'-from0')
 (zas labels' c 1).bind fun d=>
 ((st.ld d.1 d.2).bind asS).bind fun e=>
 (((zbJ ⟨#[32,115,101,113,61,106,109,112,32,116,111,61]⟩ e).bind fun s=>some (.string s)).bind asS).bind fun f=>
 (((zbJ f ⟨#[10]⟩).bind fun s=>some (.string s)).bind asS).bind fun g=>
 (((zbJ s' g).bind fun s=>some (.string s)).bind asS).bind fun h=>
 let i:Int:=IntKind.wrap .i64 (t12'+1)
 lf 3 [.int .i64 from0',labels',.string h,.int .i64 i] st) (
 (((zbJ ⟨#[32,115,101,113,61,106,109,112,32,116,111,61]⟩ ⟨#[105,108,108,101,103,97,108]⟩).bind fun s=>some (.string s)).bind asS).bind fun j=>
 (((zbJ j ⟨#[10]⟩).bind fun s=>some (.string s)).bind asS).bind fun k=>
 (((zbJ s' k).bind fun s=>some (.string s)).bind asS).bind fun l=>
 let m:Int:=IntKind.wrap .i64 (t12'+1)
 lf 3 [.int .i64 from0',labels',.string l,.int .i64 m] st)) (
 (((zbJ ⟨#[32,115,101,113,61,106,109,112,32,116,111,61]⟩ ⟨#[105,108,108,101,103,97,108]⟩).bind fun s=>some (.string s)).bind asS).bind fun n=>
 (((zbJ n ⟨#[10]⟩).bind fun s=>some (.string s)).bind asS).bind fun o=>
 (((zbJ s' o).bind fun s=>some (.string s)).bind asS).bind fun p=>
 let q:Int:=IntKind.wrap .i64 (t12'+1)
 lf 3 [.int .i64 from0',labels',.string p,.int .i64 q] st)) (
 some (0,[.string s'],st))
theorem zfr [Sym] (from0':Int) (labels':Value) (s':ByteArray) (t12':Int) (st:SS) {r:Nat×List Value×SS} (h:ze0 cc zb9 from0' labels' s' t12' st=some r):zb9 3 [.int .i64 from0',labels',.string s',.int .i64 t12'] st=some r:=
 zaA zai zaq (key:=3) (I:=zgG) rfl (by kernel_rfl) (by kernel_rfl) rfl rfl (.trans (by kernel_rfl) h)
noncomputable def zi1 (cf:zak) (lf:zac) (st:SS):Option (Value×SS):=
 (cf 84 [] st).bind fun a=>
 (cf 83 [.string ⟨#[101,120,101,99]⟩,.int .i64 0,a.1] a.2).bind fun b=>
 ((some b.1).bind asS).bind fun c=>
 (((zbJ ⟨#[59,32,119,104,101,114,101,32,116,104,101,32,99,108,97,115,115,101,115,32,97,114,101,32,100,111,110,101,44,32,97,110,100,32,116,104,101,32,115,116,114,105,110,103,115,39,32,115,116,101,112,115,10]⟩ c).bind fun s=>some (.string s)).bind asS).bind fun d=>
 (cf 85 [] b.2).bind fun e=>
 (cf 83 [.string ⟨#[115,116,101,112,115]⟩,.int .i64 40,e.1] e.2).bind fun f=>
 ((some f.1).bind asS).bind fun g=>
 (((zbJ d g).bind fun s=>some (.string s)).bind asS).bind fun h=>
 some (.string h,f.2)
noncomputable abbrev zlc:zac:=lS Tryz.prog Lk0 Tryz.f54 zaw
theorem zld:Lk0.func 54=some (54,Tryz.f54):=by kernel_rfl
theorem zle [Sym] (st:SS) {r:Value×SS} (h:zi1 cc zlc st=some r):cc 54 [] st=some r:=
 zad (li:=zaw) zai zaq zld rfl (fun _=>rfl) (.trans (by kernel_rfl) h)
noncomputable def zgV (cf:zak) (lf:zac) (st:SS):Option (Value×SS):=
 (cf 54 [] st).bind fun a=>
 ((some a.1).bind asS).bind fun b=>
 let c:SS:=a.2.new (.cells ([.string ⟨⟨ucS0⟩⟩,.string b,.string ⟨⟨ucS1⟩⟩,.string ⟨⟨ucS2⟩⟩,.string ⟨⟨ucS3⟩⟩,.string ⟨⟨ucS4⟩⟩,.string ⟨⟨ucS5⟩⟩,.string ⟨⟨ucS6⟩⟩,.string ⟨⟨ucS7⟩⟩]) 1)
 some (.slice (some ⟨a.2.next,0,none⟩) 9 9,c)
noncomputable abbrev zhn:zac:=lS Tryz.prog Lk0 Tryz.f27 zaw
theorem zlT:Lk0.func 27=some (27,Tryz.f27):=by kernel_rfl
theorem zlU [Sym] (st:SS) {r:Value×SS} (h:zgV cc zhn st=some r):cc 27 [] st=some r:=
 zad (li:=zaw) zai zaq zlT rfl (fun _=>rfl) (.trans (by kernel_rfl) h)
def zgi:LoopI:=⟨[(1,.str),(4,.any),(5,.int .i64),(6,.int .i64)],[(.exit 0,[(1,.str)])]⟩
def zgH (n:Nat):Option LoopI:=cond (Nat.beq n 3) (some zgi) (none)
noncomputable def zi2 (cf:zak) (lf:zac) (st:SS):Option (Value×SS):=
 (cf 27 [] st).bind fun a=>
 ((lenV a.1).bind (asI .i64)).bind fun b=>
 (lf 3 [.string ⟨#[]⟩,a.1,.int .i64 b,.int .i64 0] a.2).bind fun c=>
 ((c.2.1[0]?).bind asS).bind fun d=>
 some (.string d,c.2.2)
noncomputable abbrev zcy:zac:=lS Tryz.prog Lk0 Tryz.f29 zgH
theorem zlf:Lk0.func 29=some (29,Tryz.f29):=by kernel_rfl
theorem zlg [Sym] (st:SS) {r:Value×SS} (h:zi2 cc zcy st=some r):cc 29 [] st=some r:=
 zad (li:=zgH) zai zaq zlf rfl (fun _=>rfl) (.trans (by kernel_rfl) h)
noncomputable def zeC (cf:zak) (lf:zac) (s':ByteArray) (t4':Value) (t5':Int) (t6':Int) (st:SS):Option (Nat×List Value×SS):=
 cond (decide (t6'<t5')) (
 (zas t4' t6' 1).bind fun a=>
 ((st.ld a.1 a.2).bind asS).bind fun b=>
 (((zbJ s' b).bind fun s=>some (.string s)).bind asS).bind fun c=>
 let d:Int:=IntKind.wrap .i64 (t6'+1)
 lf 3 [.string c,t4',.int .i64 t5',.int .i64 d] st) (
 some (0,[.string s'],st))
theorem zfe [Sym] (s':ByteArray) (t4':Value) (t5':Int) (t6':Int) (st:SS) {r:Nat×List Value×SS} (h:zeC cc zcy s' t4' t5' t6' st=some r):zcy 3 [.string s',t4',.int .i64 t5',.int .i64 t6'] st=some r:=
 zaA zai zaq (key:=3) (I:=zgi) rfl (by kernel_rfl) (by kernel_rfl) rfl rfl (.trans (by kernel_rfl) h)
noncomputable def zmu (cf:zak) (lf:zac) (st:SS):Option (Value×SS):=
 let a:SS:=st.new (.cells [.slice none 0 0,.slice none 0 0] 0)
 (cf 29 [] a).bind fun b=>
 ((some b.1).bind asS).bind fun c=>
 (cf 16 [.string c] b.2).bind fun d=>
 (zal d.1 0).bind fun e=>
 (zal d.1 1).bind fun f=>
 ((zal d.1 2).bind (asI .i64)).bind fun g=>
 let h:SS:=d.2.new (.cells [.slice none 0 0,.slice none 0 0] 0)
 let i:SS:=h.new (.cells [.int .i64 0,.int .i64 0] 0)
 (i.stV d.2.next 0 2 e).bind fun j=>
 (j.stV h.next 0 2 f).bind fun k=>
 (k.ldN d.2.next 0 2).bind fun l=>
 (k.stV st.next 0 2 l).bind fun m=>
 (m.rdN st.next 0 2).bind fun n=>
 some (.tuple #[n,.int .i64 g],m)
noncomputable abbrev znJ:zac:=lS Tryz.prog Lk0 Tryz.f28 zaw
theorem znK:Lk0.func 28=some (28,Tryz.f28):=by kernel_rfl
theorem znL [Sym] (st:SS) {r:Value×SS} (h:zmu cc znJ st=some r):cc 28 [] st=some r:=
 zad (li:=zaw) zai zaq znK rfl (fun _=>rfl) (.trans (by kernel_rfl) h)
noncomputable def zmP (cf:zak) (lf:zac) (st:SS):Option (Value×SS):=
 let st1:SS:=st.new (.cells ([.string ⟨#[102,101,116,99,104]⟩,.string ⟨#[111,112,101,114,97,110,100]⟩,.string ⟨#[98,114,97,110,99,104]⟩,.string ⟨#[102,97,117,108,116]⟩,.string ⟨#[105,110,116,101,114,114,117,112,116]⟩]) 1)
 some (.slice (some ⟨st.next,0,none⟩) 5 5,st1)
noncomputable abbrev zkl:zac:=lS Tryz.prog Lk0 Tryz.f33 zaw
theorem zkm:Lk0.func 33=some (33,Tryz.f33):=by kernel_rfl
theorem zkn [Sym] (st:SS) {r:Value×SS} (h:zmP cc zkl st=some r):cc 33 [] st=some r:=
 zad (li:=zaw) zai zaq zkm rfl (fun _=>rfl) (.trans (by kernel_rfl) h)
noncomputable def zeJ (cf:zak) (lf:zac) (st:SS):Option (Value×SS):=
 (cf 33 [] st).bind fun a=>
 ((lenV a.1).bind (asI .i64)).bind fun b=>
 cond (decide (b=5)) (
 (zas a.1 0 1).bind fun c=>
 ((a.2.ld c.1 c.2).bind asS).bind fun d=>
 cond (eqT d ⟨#[102,101,116,99,104]⟩) (
 (zas a.1 4 1).bind fun e=>
 ((a.2.ld e.1 e.2).bind asS).bind fun f=>
 some (.bool (eqT f ⟨#[105,110,116,101,114,114,117,112,116]⟩),a.2)) (
 some (.bool false,a.2))) (
 some (.bool false,a.2))
noncomputable abbrev zgW:zac:=lS Tryz.prog Lk0 Tryz.f26 zaw
theorem zgX:Lk0.func 26=some (26,Tryz.f26):=by kernel_rfl
theorem zgY [Sym] (st:SS) {r:Value×SS} (h:zeJ cc zgW st=some r):cc 26 [] st=some r:=
 zad (li:=zaw) zai zaq zgX rfl (fun _=>rfl) (.trans (by kernel_rfl) h)
noncomputable def zdq (cf:zak) (lf:zac) (at0':Int) (x':Int) (st:SS):Option (Value×SS):=
 (cf 26 [] st).bind fun a=>
 ((some a.1).bind asB).bind fun b=>
 cond (!b) (
 some (.bool false,a.2)) (
 (cf 28 [] a.2).bind fun c=>
 (zal c.1 0).bind fun d=>
 ((zal c.1 1).bind (asI .i64)).bind fun e=>
 let f:SS:=c.2.new (.cells [.slice none 0 0,.slice none 0 0] 0)
 (f.stV c.2.next 0 2 d).bind fun g=>
 cond (!(decide (e=0))) (
 some (.bool false,g)) (
 (g.ld c.2.next 0).bind fun h=>
 ((lenV h).bind (asI .i64)).bind fun i=>
 cond (decide (i=0)) (
 some (.bool false,g)) (
 let j:Int:=IntKind.wrap .u64 at0'
 (g.ld c.2.next 0).bind fun k=>
 ((lenV k).bind (asI .i64)).bind fun l=>
 let m:Int:=IntKind.wrap .u64 l
 ((aI .rem .u64 j m).bind (asI .u64)).bind fun n=>
 let o:Int:=IntKind.wrap .i64 n
 (g.ld c.2.next 0).bind fun p=>
 (zas p o 1).bind fun q=>
 ((g.ld q.1 q.2).bind (asI .u64)).bind fun r=>
 (g.ld c.2.next 0).bind fun s=>
 (zas s o 1).bind fun t=>
 (g.st t.1 t.2 [.int .u64 x']).bind fun u=>
 (cf 33 [] u).bind fun v=>
 (zas v.1 0 1).bind fun w=>
 (v.2.st w.1 w.2 [.string ⟨#[111,116,104,101,114]⟩]).bind fun x=>
 (cf 27 [] x).bind fun y=>
 (zas y.1 0 1).bind fun z=>
 (y.2.st z.1 z.2 [.string ⟨#[111,116,104,101,114]⟩]).bind fun A=>
 (cf 28 [] A).bind fun B=>
 (zal B.1 0).bind fun C=>
 ((zal B.1 1).bind (asI .i64)).bind fun D=>
 let E:SS:=B.2.new (.cells [.slice none 0 0,.slice none 0 0] 0)
 (E.stV B.2.next 0 2 C).bind fun F=>
 cond (decide (D=0)) (
 (F.ld B.2.next 0).bind fun G=>
 (zas G o 1).bind fun H=>
 ((F.ld H.1 H.2).bind (asI .u64)).bind fun I=>
 cond (decide (I=r)) (
 (cf 33 [] F).bind fun J=>
 (zas J.1 0 1).bind fun K=>
 ((J.2.ld K.1 K.2).bind asS).bind fun L=>
 cond (eqT L ⟨#[102,101,116,99,104]⟩) (
 (cf 27 [] J.2).bind fun M=>
 (zas M.1 0 1).bind fun N=>
 ((M.2.ld N.1 N.2).bind asS).bind fun O=>
 some (.bool (!(eqT O ⟨#[111,116,104,101,114]⟩)),M.2)) (
 some (.bool false,J.2))) (
 some (.bool false,F))) (
 some (.bool false,F)))))
noncomputable abbrev zff:zac:=lS Tryz.prog Lk0 Tryz.f9 zaw
theorem zfg:Lk0.func 9=some (9,Tryz.f9):=by kernel_rfl
theorem zfh [Sym] (at0':Int) (x':Int) (st:SS) {r:Value×SS} (h:zdq cc zff at0' x' st=some r):cc 9 [.int .i64 at0',.int .u64 x'] st=some r:=
 zad (li:=zaw) zai zaq zfg rfl (fun _=>rfl) (.trans (by kernel_rfl) h)
end Go.Proofs.YtifploedaacedaaGreatDoorE
namespace Go.Proofs.YtifploedaacedaaGreatDoorE
open Go Go.E Go.Proofs
def strRow (l:List UInt8):List Value:=[.string (mkS l)]
theorem zjg {st:SS} {row:List Value} {n:Nat} (h:row.length=n) (h0:0<n):Own st.next (st.new (.cells row 1)) (.slice (some ⟨st.next,0,none⟩) n n) row 1 n:=
 ⟨by omega,.inr ⟨st.next,rfl,h0,SS.new_get,zlr _,by simp⟩⟩
theorem zjh {st:SS} {v:Value} {ls:List (List UInt8)} (hv:Rd st v (rowsF strRow ls) 1 ls.length) {i:Nat} {x:List UInt8} (hx:ls[i]?=some x):∃ p,zas v (i:Int) 1=some p∧st.ld p.1 p.2=some (.string (mkS x)):=by
 have hi:i<ls.length:=(List.getElem?_eq_some_iff.1 hx).1
 obtain ⟨p,h1,_,h3⟩:=hv.load (j:=(i:Int)) (by omega) (by omega) (zbm (f:=strRow) (z:=1) (fun _=>rfl) ls i x hx) rfl
 exact ⟨p,h1,h3 0 (by omega)⟩
theorem zpF [Sym] (st:SS):cc 84 [] st=some (.slice (some ⟨st.next,0,none⟩) 46 46,st.new (.cells (rowsF strRow zcd) 1)):=zkk st rfl
theorem zsa [Sym] (st:SS):cc 85 [] st=some (.slice (some ⟨st.next,0,none⟩) 6 6,st.new (.cells (rowsF strRow zeA) 1)):=zlQ st rfl
theorem zpG [Sym] {st:SS} {v:Value} {ls:List (List UInt8)} {from0:Nat} (hv:Rd st v (rowsF strRow ls) 1 ls.length) (hf:from0≤64) (hls:∀ x∈ls,x.length≤100):∀ (k i:Nat) (s:List UInt8),64=k+i→s.length+k*200≤100000→
  zb9 3 [.int .i64 from0,v,.string (mkS s),.int .i64 i] st=some (0,[.string (mkS (s++zeW from0 ls k i))],st):=by
 intro k
 induction k with
 | zero=>
   intro i s hk hs
   have h:¬ (i:Int)<64:=by omega
   refine zfr _ _ _ _ st ?_
   simp only [ze0,zdf h,zcf,zeW,List.append_nil]
 | succ k ih=>
   intro i s hk hs
   have h:(i:Int)<64:=by omega
   have hw:=zbf (i:=i) (by omega)
   have go:∀ l:List UInt8,l.length≤100→zbJ ⟨#[32,115,101,113,61,106,109,112,32,116,111,61]⟩ (mkS l)=some (mkS (zb4++l))∧zbJ (mkS (zb4++l)) ⟨#[10]⟩=some (mkS (zb4++l++[10]))∧zbJ (mkS s) (mkS (zb4++l++[10]))=some (mkS (s++(zb4++l++[10])))∧
     zb9 3 [.int .i64 from0,v,.string (mkS (s++(zb4++l++[10]))),.int .i64 ((i+1:Nat):Int)] st=some (0,[.string (mkS (s++((zb4++l++[10])++zeW from0 ls k (i+1))))],st):=by
    intro l hl
    have hj:zb4.length=12:=rfl
    have l1:(zb4++l).length≤112:=by rw [List.length_append,hj];omega
    have l2:(zb4++l++[10]).length≤113:=by rw [List.length_append];simp only [List.length_cons,List.length_nil];omega
    have e1:zbJ ⟨#[32,115,101,113,61,106,109,112,32,116,111,61]⟩ (mkS l)=some (mkS (zb4++l)):=zf6 (a:=zb4) (by omega)
    have e2:zbJ (mkS (zb4++l)) ⟨#[10]⟩=some (mkS (zb4++l++[10])):=zf6 (b:=[10]) (by simp only [List.length_cons,List.length_nil];omega)
    have e3:=zf6 (a:=s) (b:=zb4++l++[10]) (by omega)
    have e4:=ih (i+1) (s++(zb4++l++[10])) (by omega) (by rw [List.length_append];omega)
    rw [List.append_assoc s] at e4
    exact ⟨e1,e2,e3,e4⟩
   refine zfr _ _ _ _ st ?_
   simp only [ze0,zdt h,zct,hw]
   unfold zeW
   by_cases h1:from0≤i
   ·have h1':(from0:Int)≤(i:Int):=by omega
    have hsub:IntKind.wrap .i64 ((i:Int)-(from0:Int))=((i-from0:Nat):Int):=by rw [wrap64 (by omega) (by omega)];omega
    simp only [zdt h1',zct,hsub,hv.len,zob,zaa]
    by_cases h2:i-from0<ls.length
    ·have h2':((i-from0:Nat):Int)<(ls.length:Int):=by omega
     obtain ⟨x,hx⟩:∃ x,ls[i-from0]?=some x:=⟨_,zge h2⟩
     obtain ⟨p,p1,p2⟩:=zjh hv hx
     obtain ⟨e1,e2,e3,e4⟩:=go x (hls x (zmg hx))
     have hg:(if from0≤i∧i-from0<ls.length then ls.getD (i-from0) [] else zb7)=x:=by rw [if_pos ⟨h1,h2⟩,List.getD_eq_getElem?_getD,hx];rfl
     rw [hg]
     simp only [zdt h2',zct,p1,p2,zob,zab,e1,e2,e3]
     exact e4
    ·have h2':¬ ((i-from0:Nat):Int)<(ls.length:Int):=by omega
     obtain ⟨e1,e2,e3,e4⟩:=go zb7 (by decide)
     have hg:(if from0≤i∧i-from0<ls.length then ls.getD (i-from0) [] else zb7)=zb7:=if_neg (fun hh=>h2 hh.2)
     rw [hg]
     have e1':zbJ ⟨#[32,115,101,113,61,106,109,112,32,116,111,61]⟩ ⟨#[105,108,108,101,103,97,108]⟩=some (mkS (zb4++zb7)):=e1
     simp only [zdf h2',zcf,zob,zab,e1',e2,e3]
     exact e4
   ·have h1':¬ (from0:Int)≤(i:Int):=by omega
    obtain ⟨e1,e2,e3,e4⟩:=go zb7 (by decide)
    have hg:(if from0≤i∧i-from0<ls.length then ls.getD (i-from0) [] else zb7)=zb7:=if_neg (fun hh=>h1 hh.1)
    rw [hg]
    have e1':zbJ ⟨#[32,115,101,113,61,106,109,112,32,116,111,61]⟩ ⟨#[105,108,108,101,103,97,108]⟩=some (mkS (zb4++zb7)):=e1
    simp only [zdf h1',zcf,zob,zab,e1',e2,e3]
    exact e4
theorem znM [Sym] {st:SS} {v:Value} {name:List UInt8} {ls:List (List UInt8)} {from0:Nat} (hv:Rd st v (rowsF strRow ls) 1 ls.length) (hf:from0≤64) (hls:∀ x∈ls,x.length≤100) (hn:name.length≤100):
  cc 83 [.string (mkS name),.int .i64 from0,v] st=some (.string (mkS (zez name from0 ls)),st):=by
 refine zlS _ _ _ st ?_
 have e1:zbJ (mkS name) ⟨#[58]⟩=some (mkS (name++[58])):=zf6 (b:=[58]) (by simp only [List.length_cons,List.length_nil];omega)
 have e2:=zpG hv hf hls 64 0 (name++[58]) rfl (by rw [List.length_append];simp only [List.length_cons,List.length_nil];omega)
 have e2':zb9 3 [.int .i64 from0,v,.string (mkS (name++[58])),.int .i64 0] st=_:=e2
 simp only [zjR,e1,e2',zob,zab,zgz]
 rfl
theorem zsb:zlN.length≤5000∧(zez [101,120,101,99] 0 zcd).length≤5000∧(zez [115,116,101,112,115] 40 zeA).length≤5000:=by decide+kernel
theorem zq6 [Sym] (st:SS):∃ s',cc 54 [] st=some (.string (mkS zlN),s')∧Ext st s':=by
 have h1:=zpF st
 have o1:Own st.next (st.new (.cells (rowsF strRow zcd) 1)) (.slice (some ⟨st.next,0,none⟩) 46 46) (rowsF strRow zcd) 1 46:=zjg rfl (by omega)
 have x1:Ext st (st.new (.cells (rowsF strRow zcd) 1)):=(Ext.refl _).new _
 generalize st.new (.cells (rowsF strRow zcd) 1)=s1 at*
 have h2:=znM (name:=[101,120,101,99]) (ls:=zcd) (from0:=0) o1.rd (by omega) (by decide) (by decide)
 have h3:=zsa s1
 have o2:Own s1.next (s1.new (.cells (rowsF strRow zeA) 1)) (.slice (some ⟨s1.next,0,none⟩) 6 6) (rowsF strRow zeA) 1 6:=zjg rfl (by omega)
 have x2:Ext s1 (s1.new (.cells (rowsF strRow zeA) 1)):=(Ext.refl _).new _
 generalize s1.new (.cells (rowsF strRow zeA) 1)=s2 at*
 have h4:=znM (name:=[115,116,101,112,115]) (ls:=zeA) (from0:=40) o2.rd (by omega) (by decide) (by decide)
 have h2':cc 83 [.string ⟨#[101,120,101,99]⟩,.int .i64 0,.slice (some ⟨st.next,0,none⟩) 46 46] s1=_:=h2
 have h4':cc 83 [.string ⟨#[115,116,101,112,115]⟩,.int .i64 40,.slice (some ⟨s1.next,0,none⟩) 6 6] s2=_:=h4
 obtain ⟨l0,l1,l2⟩:=zsb
 have lt:zk8.length≤5000:=by decide
 have e1:=zf6 (a:=zk8) (b:=zez [101,120,101,99] 0 zcd) (by omega)
 have e1':zbJ ⟨#[59,32,119,104,101,114,101,32,116,104,101,32,99,108,97,115,115,101,115,32,97,114,101,32,100,111,110,101,44,32,97,110,100,32,116,104,101,32,115,116,114,105,110,103,115,39,32,115,116,101,112,115,10]⟩ (mkS (zez [101,120,101,99] 0 zcd))=_:=e1
 have e2:=zf6 (a:=zk8++zez [101,120,101,99] 0 zcd) (b:=zez [115,116,101,112,115] 40 zeA) (by rw [List.length_append];omega)
 refine ⟨s2,zle st ?_,x1.trans x2⟩
 simp only [zi1,h1,h2',h3,h4',zob,zab,e1',e2]
 rfl
theorem zi3 [Sym] (st:SS):∃ s' v,cc 27 [] st=some (v,s')∧Ext st s'∧Own st.next s' v (rowsF strRow zi0) 1 9:=by
 obtain ⟨s1,h1,x1⟩:=zq6 st
 have h2:zgV cc zhn st=some (.slice (some ⟨s1.next,0,none⟩) 9 9,s1.new (.cells (rowsF strRow zi0) 1)):=by
  simp only [zgV,h1,zob,zab]
  rfl
 exact ⟨_,_,zlU st h2,x1.new _,(zjg (n:=9) rfl (by omega)).low x1.next⟩
theorem zof [Sym] {st:SS} {v:Value} {ls:List (List UInt8)} (hv:Rd st v (rowsF strRow ls) 1 ls.length) (hm:ls.length≤1000):∀ (k i:Nat) (s:List UInt8),ls.length=k+i→s.length+(ls.drop i).flatten.length≤1000000→
  zcy 3 [.string (mkS s),v,.int .i64 ls.length,.int .i64 i] st=some (0,[.string (mkS (s++(ls.drop i).flatten))],st):=by
 intro k
 induction k with
 | zero=>
   intro i s hk hs
   have h:¬ (i:Int)<(ls.length:Int):=by omega
   refine zfe _ _ _ _ st ?_
   simp only [zeC,zdf h,zcf,List.drop_of_length_le (show ls.length≤i by omega),List.flatten_nil,List.append_nil]
 | succ k ih=>
   intro i s hk hs
   have h:(i:Int)<(ls.length:Int):=by omega
   have hw:=zbf (i:=i) (by omega)
   obtain ⟨x,hx⟩:∃ x,ls[i]?=some x:=⟨_,zge (by omega)⟩
   obtain ⟨p,p1,p2⟩:=zjh hv hx
   rw [drop_cons hx,List.flatten_cons] at hs ⊢
   rw [List.length_append] at hs
   have e1:=zf6 (a:=s) (b:=x) (by omega)
   have e2:=ih (i+1) (s++x) (by omega) (by rw [List.length_append];omega)
   rw [List.append_assoc] at e2
   refine zfe _ _ _ _ st ?_
   simp only [zeC,zdt h,zct,p1,p2,zob,zab,e1,hw]
   exact e2
theorem zmv:zkg.length≤65536:=Nat.le_of_ble_eq_true (by kernel_rfl)
theorem zq7 [Sym] (st:SS):∃ s',cc 29 [] st=some (.string (mkS zkg),s')∧Ext st s':=by
 obtain ⟨s1,v,h1,x1,o1⟩:=zi3 st
 have h2:=zof (ls:=zi0) o1.rd (by decide) 9 0 [] rfl (by
  have:=zmv
  unfold zkg at this
  rw [List.drop_zero,List.length_nil]
  omega)
 have h2':zcy 3 [.string ⟨#[]⟩,v,.int .i64 ((9:Nat):Int),.int .i64 0] s1=some (0,[.string (mkS zkg)],s1):=h2
 refine ⟨s1,zlg st ?_,x1⟩
 simp only [zi2,h1,zob,o1.len,zaa,h2',zgz,zab]
def zfi:List (List UInt8):=[[102,101,116,99,104],[111,112,101,114,97,110,100],[98,114,97,110,99,104],[102,97,117,108,116],[105,110,116,101,114,114,117,112,116]]
theorem zib [Sym] (st:SS):∃ s' v,cc 33 [] st=some (v,s')∧Ext st s'∧Own st.next s' v (rowsF strRow zfi) 1 5:=
 ⟨st.new (.cells (rowsF strRow zfi) 1),.slice (some ⟨st.next,0,none⟩) 5 5,zkn st rfl,(Ext.refl _).new _,zjg rfl (by omega)⟩
theorem zsc [Sym] (st:SS):∃ s',cc 26 [] st=some (.bool true,s')∧Ext st s':=by
 obtain ⟨s1,v,h1,x1,o1⟩:=zib st
 obtain ⟨p,p1,p2⟩:=zjh o1.rd (ls:=zfi) (i:=0) rfl
 obtain ⟨q,q1,q2⟩:=zjh o1.rd (ls:=zfi) (i:=4) rfl
 have p1':zas v 0 1=some p:=p1
 have q1':zas v 4 1=some q:=q1
 refine ⟨s1,zgY st ?_,x1⟩
 simp only [zeJ,h1,zob,o1.len,zaa,p1',p2,q1',q2,zab]
 rfl
end Go.Proofs.YtifploedaacedaaGreatDoorE
namespace Go.Proofs.YtifploedaacedaaGreatDoorE
open Go Go.E Go.Proofs
theorem znN (a b c d:Int):eqA Tryz.prog Lk0 97 (.agg #[.int .i64 a,.int .i64 b]) (.agg #[.int .i64 c,.int .i64 d])=some (decide (a=c)&&(decide (b=d)&&true)):=by kernel_rfl
theorem At.frm {b i j:Nat} {vw:Value} {st st':SS} {row:List Value} (h:At st j row) (f:Frm b i vw st st') (h1:j≠b) (h2:j≠i) (h3:blkOf vw≠some j):At st' j row:=⟨(f.keep j h.lt h1 h2 h3).trans h.1,zll h.lt f.next,by rw [f.lim];exact h.2.2⟩
theorem zq8 {st:SS} {v:Value} {c:List Value} {z n:Nat} (h:Rd st v c z n):one v=true:=by obtain ⟨_,⟨e,_⟩ | ⟨i,c,e,_⟩⟩:=h<;>rw [e]<;>rfl
def AsmL (base st0:SS) (B b i t2 t3:Nat) (res:Option (Nat×List Value×SS)):Except (Nat×Nat) Lay→Prop
 | .error e=>∃ s',res=some (1,[ptr t2 0,ptr t3 0,.int .i64 4],s')∧Ext base s'∧At s' t2 NN∧At s' t3 [.int .i64 e.1,.int .i64 e.2]
 | .ok l=>∃ s' vw ve vv its,res=some (0,[ptr t2 0,ptr t3 0,ptr b 0],s')∧Bld st0 s' B b i vw ve vv l its
theorem zta [Sym] {base st0:SS} {B b i M:Nat} (hM:M≤100000) (items:List Item) (hits:items.length≤99999) (hok:∀ x∈items,LineOk M x.1∧0<x.1.ln) (v:Value) (hv:Rd st0 v (rowsF lnRow items) 5 items.length)
  (hrd:∀ x∈items,Rd st0 x.2.1 (rowsF valRow x.1.args) 3 x.1.args.length∧Rd st0 x.2.2 (rowsF prRow x.1.prs) 5 x.1.prs.length) (hx0:Ext base st0) (hb2:base.next+2≤st0.next) (a2:At st0 base.next NN) (a3:At st0 (base.next+1) Z2):
  ∀ (k j:Nat) (l:Lay) (vw ve vv:Value) (its:List WItem) (s:SS),items.length=k+j→Bld st0 s B b i vw ve vv l its→LayOk M l→l.ents.length≤j→
  AsmL base st0 B b i base.next (base.next+1) (zba 6 [ptr base.next 0,ptr (base.next+1) 0,ptr b 0,v,.int .i64 items.length,.int .i64 j] s) (zfm l ((items.drop j).map (·.1))):=by
 intro k
 induction k with
 | zero=>
   intro j l vw ve vv its s hk hB hL hen
   have h:¬ (j:Int)<(items.length:Int):=by omega
   rw [List.drop_of_length_le (by omega)]
   refine ⟨s,vw,ve,vv,its,zdg _ _ _ _ _ _ s ?_,hB⟩
   simp only [zc1,zdf h,zcf]
 | succ k ih=>
   intro j l vw ve vv its s hk hB hL hen
   have h:(j:Int)<(items.length:Int):=by omega
   obtain ⟨x,hx⟩:∃ x,items[j]?=some x:=⟨_,zge (by omega)⟩
   have hmem:=zmg hx
   have hd:=drop_cons hx
   have hlm:s.lim≤s.next:=hB.ext.ll hB.ll
   have hil:its.length≤2048:=by
    have h1:=hL.wlen
    have h2:=hL.pl
    rw [← hB.wds,List.length_map] at h1
    omega
   obtain ⟨p1,b1,b2,_⟩:=(hv.ext hB.ext).load (j:=(j:Int)) (by omega) h (zbm (f:=lnRow) (z:=5) (fun _=>rfl) items j x hx) rfl
   have b2':s.ldN p1.1 p1.2 5=some (.agg (lnRow x).toArray):=b2
   have ho:one x.2.1=true∧one x.2.2=true:=⟨zq8 (hrd x hmem).1,zq8 (hrd x hmem).2⟩
   obtain ⟨s4,e4,a4,x4,n4⟩:=za4 (n:=5) (st:=s) hlm (r:=lnRow (⟨0,[],[],[],[]⟩,.slice none 0 0,.slice none 0 0)) (row:=lnRow x) (v:=.agg (lnRow x).toArray) (zaC _) rfl (by
    simp only [lnRow,List.all_cons,List.all_nil,ho.1,ho.2]
    rfl) rfl
   have e4':(s.new (.cells [.int .i64 0,.string ⟨#[]⟩,.string ⟨#[]⟩,.slice none 0 0,.slice none 0 0] 0)).stV s.next 0 5 (.agg (lnRow x).toArray)=some s4:=e4
   have l5:s4.ldN s.next 0 5=some (.agg (lnRow x).toArray):=a4.ldN rfl
   have hf:=zr2 (hB.then x4) x (hrd x hmem) ho hL.pl (by omega) (by omega) (by have:=(hok x hmem).1.sa;omega)
   have hL6:zfm l ((items.drop j).map (·.1))=match zh8 l x.1 with
    | none=>.error (x.1.ln,1)
    | some l'=>zfm l' ((items.drop (j+1)).map (·.1)):=by rw [hd];rfl
   rw [hL6]
   cases hln:zh8 l x.1 with
   | none=>
     rw [hln] at hf
     obtain ⟨s6,c6,f6⟩:=hf
     have hxs:∀ q,q<st0.next→q≠b∧q≠i∧blkOf vw≠some q:=fun q hq=>⟨by have:=hB.b0;omega,by have:=hB.i0;omega,fun e=>by have:=(zb0 hB.ow e).1;have:=hB.b0;have:=hB.bB;omega⟩
     have a46:At s6 s.next (lnRow x):=At.frm a4 f6 (by have:=hB.bB;have:=hB.BN;omega) (by have:=hB.iB;have:=hB.BN;omega) fun e=>by have:=(zb0 hB.ow e).2;omega
     have a26:At s6 base.next NN:=At.frm (a2.ext (hB.ext.trans x4)) f6 (hxs _ (by omega)).1 (hxs _ (by omega)).2.1 (hxs _ (by omega)).2.2
     have a36:At s6 (base.next+1) Z2:=At.frm (a3.ext (hB.ext.trans x4)) f6 (hxs _ (by omega)).1 (hxs _ (by omega)).2.1 (hxs _ (by omega)).2.2
     have x6:Ext base s6:=by
      have y:=(hx0.trans hB.ext).trans x4
      exact ⟨zlt y.next f6.next,f6.lim.trans y.lim,fun q hq=>(f6.keep q (zll hq y.next) (hxs q (by omega)).1 (hxs q (by omega)).2.1 (hxs q (by omega)).2.2).trans (y.keep q hq)⟩
     have l8:s6.ld s.next 0=some (.int .i64 x.1.ln):=a46.ld
     obtain ⟨s10,e10,a10,m10,n10⟩:=a26.sto (k:=0) (vs:=NN) (row':=NN) rfl rfl
     obtain ⟨s12,e12,a12,m12,n12⟩:=(a36.mod m10 (by simp)).sto (k:=0) (vs:=[.int .i64 x.1.ln,.int .i64 1]) (row':=[.int .i64 x.1.ln,.int .i64 1]) rfl rfl
     have hne:zbp (ptr s.next 0) (ptr base.next 0)=true:=zcc (by have:=hB.ext.next;omega)
     refine ⟨s12,zdg _ _ _ _ _ _ s ?_,zau (zau x6 m10 (zlr _)) m12 (by omega),a10.mod m12 (by simp),a12⟩
     simp only [zc1,zdt h,zct,b1,b2',e4',l5,c6,zob,zam,znf,l8,zaa,hne,zaf,e10,e12]
   | some l'=>
     rw [hln] at hf
     obtain ⟨s6,vw',ve',vv',its',c6,h6,_⟩:=hf
     obtain ⟨g1,g2⟩:=znE hL (hok x hmem).1 (hok x hmem).2 hln
     have next:=ih (j+1) l' vw' ve' vv' its' s6 (by omega) h6 g1 (by omega)
     have hw1:=zbf (i:=j) (by omega)
     have step:∀ z,zba 6 [ptr base.next 0,ptr (base.next+1) 0,ptr b 0,v,.int .i64 items.length,.int .i64 ((j+1:Nat):Int)] s6=some z→zba 6 [ptr base.next 0,ptr (base.next+1) 0,ptr b 0,v,.int .i64 items.length,.int .i64 j] s=some z:=fun z hz=>by
      refine zdg _ _ _ _ _ _ s ?_
      simp only [zc1,zdt h,zct,b1,b2',e4',l5,c6,zob,zam,znt,zcf,hw1]
      exact hz
     simp only
     cases hz:zfm l' ((items.drop (j+1)).map (·.1)) with
     | error e=>
       rw [hz] at next
       obtain ⟨s',d1,d2⟩:=next
       exact ⟨s',step _ d1,d2⟩
     | ok l2=>
       rw [hz] at next
       obtain ⟨s',w1,w2,w3,w4,d1,d2⟩:=next
       exact ⟨s',w1,w2,w3,w4,step _ d1,d2⟩
def AsmR (st:SS) (res:Option (Value×SS)):Except (Nat×Nat) (List Wd×List (List UInt8×Int))→Prop
 | .error e=>∃ s',res=some (.tuple #[zeZ (.slice none 0 0) (.slice none 0 0),zbw e,.int .i64 4],s')∧Ext st s'
 | .ok (ws,es)=>∃ s' wv ev,res=some (.tuple #[zeZ wv ev,zbw (0,0),.int .i64 0],s')∧Ext st s'∧Own st.next s' wv (rowsF zc2 ws) 1 ws.length∧Own st.next s' ev (rowsF zgF es) 2 es.length
theorem asm_ok [Sym] {st:SS} (hg:Gd st) (hl:st.lim≤st.next) (s:ByteArray) (hs:s.size≤65536):AsmR st (cc 16 [.string s] st) (ziZ (bl s)):=by
 have x1:Ext st (st.new (.cells NN 0)):=(Ext.refl _).new _
 have x2:Ext (st.new (.cells NN 0)) ((st.new (.cells NN 0)).new (.cells Z2 0)):=(Ext.refl _).new _
 have a2:At ((st.new (.cells NN 0)).new (.cells Z2 0)) st.next NN:=(At.new hl NN).ext x2
 have a3:At ((st.new (.cells NN 0)).new (.cells Z2 0)) (st.next+1) Z2:=At.new (st:=st.new (.cells NN 0)) (x1.ll hl) Z2
 have hn1:(st.new (.cells NN 0)).next=st.next+1:=rfl
 have hn2:((st.new (.cells NN 0)).new (.cells Z2 0)).next=st.next+2:=rfl
 have x02:=x1.trans x2
 generalize hs2:(st.new (.cells NN 0)).new (.cells Z2 0)=s2 at*
 have hp:=zrS (hg.ext x02) (x02.ll hl) s hs
 have t0:∀ (a b c:Value),zal (.tuple #[a,b,c]) 0=some a:=fun _ _ _=>rfl
 have t1:∀ (a b c:Value),zal (.tuple #[a,b,c]) 1=some b:=fun _ _ _=>rfl
 have t2:∀ (a b c:Value),zal (.tuple #[a,b,c]) 2=some c:=fun _ _ _=>rfl
 have u0:∀ (a b:Value),zal (.tuple #[a,b]) 0=some a:=fun _ _=>rfl
 have u1:∀ (a b:Value),zal (.tuple #[a,b]) 1=some b:=fun _ _=>rfl
 unfold ziZ
 cases hpt:zfH (bl s) with
 | error e=>
   rw [hpt] at hp
   obtain ⟨s3,c3,x3⟩:=hp
   obtain ⟨s8,e8,a8,x8,n8⟩:=za4 (n:=2) (st:=s3) ((x02.trans x3).ll hl) (r:=Z2) (row:=[.int .i64 e.1,.int .i64 e.2]) (v:=zbw e) rfl rfl rfl rfl
   have e8':(s3.new (.cells [.int .i64 0,.int .i64 0] 0)).stV s3.next 0 2 (zbw e)=some s8:=e8
   have h4:¬ (4:Int)=0:=by decide
   have a28:=(a2.ext x3).ext x8
   have a38:=(a3.ext x3).ext x8
   have l9:s8.ldN s3.next 0 2=some (zbw e):=a8.ldN rfl
   have hne:zbp (ptr s3.next 0) (ptr st.next 0)=true:=zcc (by have:=x3.next;omega)
   obtain ⟨s10,e10,a10,m10,n10⟩:=a28.sto (k:=0) (vs:=NN) (row':=NN) rfl rfl
   obtain ⟨s11,e11,a11,m11,n11⟩:=(a38.mod m10 (by simp)).stV (k:=0) (n:=2) (v:=zbw e) (vs:=[.int .i64 e.1,.int .i64 e.2]) rfl rfl rfl (row':=[.int .i64 e.1,.int .i64 e.2]) rfl
   have r1:=(a10.mod m11 (by simp)).rdN (n:=2) rfl
   have r2:=a11.rdN (n:=2) rfl
   refine ⟨s11,zc0 _ st ?_,zau (zau ((x02.trans x3).trans x8) m10 (zlr _)) m11 (by omega)⟩
   simp only [zc6,hs2,hn1,c3,t0,t1,t2,zob,zaa,e8',zdf h4,znf,zct,l9,hne,e10,e11,r1,r2]
   rfl
 | ok xs=>
   rw [hpt] at hp
   obtain ⟨v,s3,c3,x3,items,hxs,hv,hrd⟩:=hp
   obtain ⟨hok,hlen⟩:=zoC hpt
   rw [zaG] at hok hlen
   obtain ⟨s8,e8,a8,x8,n8⟩:=za4 (n:=2) (st:=s3) ((x02.trans x3).ll hl) (r:=Z2) (row:=Z2) (v:=zbw (0,0)) rfl rfl rfl rfl
   have e8':(s3.new (.cells [.int .i64 0,.int .i64 0] 0)).stV s3.next 0 2 (zbw (0,0))=some s8:=e8
   have h0:(0:Int)=0:=rfl
   have x08:=(x02.trans x3).trans x8
   have hl8:=x08.ll hl
   have hlen':(lenV v).bind (asI .i64)=some (items.length:Int):=by rw [hv.len];rfl
   have hil:items.length=xs.length:=by rw [← hxs,List.length_map]
   have hmp:((s8.new (.map [])).new (.cells (bldRow 0 s8.next (.slice none 0 0) (.slice none 0 0) (.slice none 0 0)) 0)).mem.get s8.next=some (.map []):=by
    rw [SS.new_old (by simp)];exact SS.new_get
   have hB0:Bld s8 ((s8.new (.map [])).new (.cells (bldRow 0 s8.next (.slice none 0 0) (.slice none 0 0) (.slice none 0 0)) 0)) (s8.next+2) (s8.next+1) s8.next (.slice none 0 0) (.slice none 0 0) (.slice none 0 0) zfn []:=
    ⟨((Ext.refl s8).new _).new _,hl8,At.new (st:=s8.new (.map [])) (by simp;omega) _,hmp,by omega,zlr _,by omega,by omega,by omega,by simp,Own.nil _ _ _,Own.nil _ _ _,Own.nil _ _ _,fun j hj=>(by cases hj),fun j hj=>(by cases hj),rfl,fun x hx=>(by cases hx)⟩
   have hb2:st.next+2≤s8.next:=by have:=x3.next;have:=x8.next;omega
   have hloop:=zta (base:=st) (st0:=s8) (B:=s8.next+2) (b:=s8.next+1) (i:=s8.next) (M:=s.size+1) (by omega) items (by omega) (fun x hx=>hok x.1 (by rw [← hxs];exact List.mem_map_of_mem hx)) v (hv.ext x8) (fun x hx=>⟨(hrd x hx).1.ext x8,(hrd x hx).2.ext x8⟩) x08 hb2 ((a2.ext x3).ext x8) ((a3.ext x3).ext x8)
    items.length 0 zfn _ _ _ [] _ rfl hB0 (zlL _) (by simp [zfn])
   rw [List.drop_zero,hxs] at hloop
   have b0:Nat.beq 0 0=true:=rfl
   have b1:Nat.beq 1 0=false:=rfl
   simp only
   cases hly:zfm zfn xs with
   | error e=>
     rw [hly] at hloop
     obtain ⟨s17,d1,d2,d3,d4⟩:=hloop
     have d1':zba 6 [ptr st.next 0,ptr (st.next+1) 0,ptr (s8.new (.map [])).next 0,v,.int .i64 items.length,.int .i64 0] ((s8.new (.map [])).new (.cells [.int .i64 0,.map (some s8.next),.slice none 0 0,.slice none 0 0,.slice none 0 0] 0))=_:=d1
     have r1:=d3.rdN (n:=2) rfl
     have r2:=d4.rdN (n:=2) rfl
     refine ⟨s17,zc0 _ st ?_,d2⟩
     simp only [zc6,hs2,hn1,c3,t0,t1,t2,zob,zaa,e8',decide_true,znt,zcf,hlen']
     rw [d1',zob]
     simp only [b1,zcf,zgs,zgz,zob,zaf,zaa,r1,r2]
     rfl
   | ok l=>
     rw [hly] at hloop
     obtain ⟨s17,vw,ve,vv,its,d1,hB⟩:=hloop
     have d1':zba 6 [ptr st.next 0,ptr (st.next+1) 0,ptr (s8.new (.map [])).next 0,v,.int .i64 items.length,.int .i64 0] ((s8.new (.map [])).new (.cells [.int .i64 0,.map (some s8.next),.slice none 0 0,.slice none 0 0,.slice none 0 0] 0))=_:=d1
     obtain ⟨hL,hen⟩:=zoD xs zfn l (zlL (s.size+1)) hok hly
     simp only [zfn,List.length_nil,Nat.zero_add] at hen
     have x017:=x08.trans hB.ext
     have hlay:=lay_ok hB hL (by omega) (by omega) (hg.ext x017)
     have a217:=((a2.ext x3).ext x8).ext hB.ext
     have a317:=((a3.ext x3).ext x8).ext hB.ext
     have hn17:st.next+2≤s17.next:=zlt hb2 hB.ext.next
     simp only
     cases hro:zgg l with
     | error e=>
       rw [hro] at hlay
       obtain ⟨s21,c21,x21,hne⟩:=hlay
       have hll21:=x21.ll (x017.ll hl)
       have y1:Ext s21 (s21.new (.cells NN 0)):=(Ext.refl _).new _
       have y2:Ext (s21.new (.cells NN 0)) ((s21.new (.cells NN 0)).new (.cells Z2 0)):=(Ext.refl _).new _
       have q1:At ((s21.new (.cells NN 0)).new (.cells Z2 0)) s21.next NN:=(At.new hll21 NN).ext y2
       have q2:At ((s21.new (.cells NN 0)).new (.cells Z2 0)) (s21.new (.cells NN 0)).next Z2:=At.new (st:=s21.new (.cells NN 0)) (y1.ll hll21) Z2
       have hnn:(s21.new (.cells NN 0)).next=s21.next+1:=rfl
       obtain ⟨s26,e26,a26,m26,n26⟩:=q1.stV (k:=0) (n:=2) (v:=zeZ (.slice none 0 0) (.slice none 0 0)) (vs:=NN) rfl rfl rfl (row':=NN) rfl
       obtain ⟨s27,e27,a27,m27,n27⟩:=(q2.mod m26 (by simp)).stV (k:=0) (n:=2) (v:=zbw e) (vs:=[.int .i64 e.1,.int .i64 e.2]) rfl rfl rfl (row':=[.int .i64 e.1,.int .i64 e.2]) rfl
       have l28:s27.ldN (s21.new (.cells NN 0)).next 0 2=some (.agg #[.int .i64 e.1,.int .i64 e.2]):=a27.ldN rfl
       have heq:(decide ((e.1:Int)=0)&&(decide ((e.2:Int)=0)&&true))=false:=by
        rw [Bool.and_true,← Bool.decide_and,decide_eq_false_iff_not]
        exact fun hh=>hne (Prod.ext (by omega) (by omega))
       have x27:Ext s21 s27:=zau (zau (y1.trans y2) m26 (zlr _)) m27 (by simp)
       have xx27:=(x017.trans x21).trans x27
       have hp1:zbp (ptr (s21.new (.cells NN 0)).next 0) (ptr st.next 0)=true:=zcc (by have:=x21.next;simp;omega)
       obtain ⟨s32,e32,a32,m32,n32⟩:=((a217.ext x21).ext x27).sto (k:=0) (vs:=NN) (row':=NN) rfl rfl
       obtain ⟨s34,e34,a34,m34,n34⟩:=(((a317.ext x21).ext x27).mod m32 (by simp)).stV (k:=0) (n:=2) (v:=.agg #[.int .i64 e.1,.int .i64 e.2]) (vs:=[.int .i64 e.1,.int .i64 e.2]) rfl rfl rfl (row':=[.int .i64 e.1,.int .i64 e.2]) rfl
       have r1:=(a32.mod m34 (by simp)).rdN (n:=2) rfl
       have r2:=a34.rdN (n:=2) rfl
       refine ⟨s34,zc0 _ st ?_,zau (zau xx27 m32 (zlr _)) m34 (by omega)⟩
       simp only [zc6,hs2,hn1,c3,t0,t1,t2,zob,zaa,e8',decide_true,znt,zcf,hlen']
       rw [d1',zob]
       simp only [b0,zct,zgs,zgz,zob]
       rw [c21,zob]
       simp only [u0,u1,zob,e26,e27,l28,znN,heq,znf,zam,zct,hp1,zaf,e32,e34,r1,r2]
       rfl
     | ok y=>
       obtain ⟨ws,es⟩:=y
       rw [hro] at hlay
       obtain ⟨s21,wv,ev,c21,x21,o1,o2⟩:=hlay
       have hll21:=x21.ll (x017.ll hl)
       have w1:one wv=true:=(Own.cell o1).2
       have w2:one ev=true:=(Own.cell o2).2
       have y1:Ext s21 (s21.new (.cells NN 0)):=(Ext.refl _).new _
       have y2:Ext (s21.new (.cells NN 0)) ((s21.new (.cells NN 0)).new (.cells Z2 0)):=(Ext.refl _).new _
       have q1:At ((s21.new (.cells NN 0)).new (.cells Z2 0)) s21.next NN:=(At.new hll21 NN).ext y2
       have q2:At ((s21.new (.cells NN 0)).new (.cells Z2 0)) (s21.new (.cells NN 0)).next Z2:=At.new (st:=s21.new (.cells NN 0)) (y1.ll hll21) Z2
       obtain ⟨s26,e26,a26,m26,n26⟩:=q1.stV (k:=0) (n:=2) (v:=zeZ wv ev) (vs:=[wv,ev]) rfl rfl (by simp [w1,w2]) (row':=[wv,ev]) rfl
       obtain ⟨s27,e27,a27,m27,n27⟩:=(q2.mod m26 (by simp)).stV (k:=0) (n:=2) (v:=zbw (0,0)) (vs:=Z2) rfl rfl rfl (row':=Z2) rfl
       have l28:s27.ldN (s21.new (.cells NN 0)).next 0 2=some (.agg #[.int .i64 0,.int .i64 0]):=a27.ldN rfl
       have heq:(decide ((0:Int)=0)&&(decide ((0:Int)=0)&&true))=true:=rfl
       have x27:Ext s21 s27:=zau (zau (y1.trans y2) m26 (zlr _)) m27 (by simp)
       have xx27:=(x017.trans x21).trans x27
       have l39:s27.ldN s21.next 0 2=some (.agg [wv,ev].toArray):=(a26.mod m27 (by simp)).ldN rfl
       obtain ⟨s41,e41,a41,m41,n41⟩:=((a217.ext x21).ext x27).stV (k:=0) (n:=2) (v:=.agg [wv,ev].toArray) (vs:=[wv,ev]) (zaC _) rfl (by simp [w1,w2]) (row':=[wv,ev]) rfl
       obtain ⟨s43,e43,a43,m43,n43⟩:=(((a317.ext x21).ext x27).mod m41 (by simp)).sto (k:=0) (vs:=Z2) (row':=Z2) rfl rfl
       have r1:=(a41.mod m43 (by simp)).rdN (n:=2) rfl
       have r2:=a43.rdN (n:=2) rfl
       have z1:∀ m,m∈[st.next]→m<s17.next:=by intro m hm;have e:m=st.next:=(by simpa using hm);omega
       have z2:∀ m,m∈[st.next+1]→m<s17.next:=by intro m hm;have e:m=st.next+1:=(by simpa using hm);omega
       refine ⟨s43,wv,ev,zc0 _ st ?_,zau (zau xx27 m41 (zlr _)) m43 (by omega),(((o1.ext x27).modLt m41 z1).modLt m43 z2).low (by omega),(((o2.ext x27).modLt m41 z1).modLt m43 z2).low (by omega)⟩
       simp only [zc6,hs2,hn1,c3,t0,t1,t2,zob,zaa,e8',decide_true,znt,zcf,hlen']
       rw [d1',zob]
       simp only [b0,zct,zgs,zgz,zob]
       rw [c21,zob]
       simp only [u0,u1,zob,e26,e27,l28,znN,heq,znt,zam,zcf,l39,zaf,e41,e43,r1,r2]
       rfl
end Go.Proofs.YtifploedaacedaaGreatDoorE
namespace Go.Proofs.YtifploedaacedaaGreatDoorE
open Go Go.E Go.Proofs
noncomputable def zgj:List (Nat×AObj):=[(6,.table [.chan (some 6)]),(7,.table [.chan (some 7)]),(0,.table fieldsC),(2,.table asciiC)]
noncomputable def st0:SS:=⟨zd2 zgj,12,12⟩
theorem gd0:Gd st0:=⟨by simp [st0,zd2,zgj,PT.get_upd],by simp [st0,zd2,zgj,PT.get_upd],by simp [st0,zd2,zgj,PT.get_upd],by simp [st0,zd2,zgj,PT.get_upd],zlr _⟩
theorem globIn:∀ g,Lk0.glob g=true→g∈zgj.map (·.1):=fun g h=>by
 have h':(Nat.beq g 6||Nat.beq g 7||Nat.beq g 0||Nat.beq g 2)=true:=h
 simp only [Bool.or_eq_true,zax,decide_eq_true_eq] at h'
 rcases h' with ((rfl | rfl) | rfl) | rfl<;>simp [zgj]
theorem tabLt:∀ x∈zgj,x.1<12:=fun x hx=>by
 simp only [zgj,List.mem_cons,List.not_mem_nil,or_false] at hx
 rcases hx with rfl | rfl | rfl | rfl<;>decide
abbrev symE (a4:TypeId) (u4:Value) (a5:TypeId) (u5:Value):Sym where
 v i:=if i=6 then .iface a4 u4 else .iface a5 u5
 ok i:=by
  refine .inr (.inr ?_)
  split<;>exact ⟨_,_,rfl⟩
abbrev laidF:DataW Unit:=.agg ((zbD.map fun m=>(m.1,(m.2:Int))).map fun m=>.agg [.lit (.string m.1),.lit (.int .i64 m.2)])
abbrev laidS:DataW Unit:=.agg (Lib.asciiSpaceTab.map fun m=>.lit (.int .u8 m))
theorem law_at {f:Nat} {fn:Func} (hf:Lk0.func f=some (f,fn)) {W:World} {laid:List (String×DataW Unit)} (h:laidMet Tryz.prog laid W) (h4:∃ nm d,("strconv.ErrSyntax",DataW.iface nm d)∈laid) (h5:∃ nm d,("strconv.ErrRange",DataW.iface nm d)∈laid)
  (hF:("camshaft/uword.fields",laidF)∈laid) (hS:("strings.asciiSpace",laidS)∈laid)
  {args:List Value} (hargs:∀ x∈args,flat3 x=true) (hlaw:∀ [Sym],∃ st',cc f args st0=some (.bool true,st')):
  Calls Tryz.prog f args.toArray W fun e W'=>e=.returned (.bool true)∧RowKit.Below W.heap.size W W':=by
 obtain ⟨nm4,d4,m4⟩:=h4
 obtain ⟨nm5,d5,m5⟩:=h5
 obtain ⟨a4,u4,c4⟩:=zkQ h m4 (g:=6) (t:=208) (by kernel_rfl) (by kernel_rfl) Tryz.underlying208
 obtain ⟨a5,u5,c5⟩:=zkQ h m5 (g:=7) (t:=208) (by kernel_rfl) (by kernel_rfl) Tryz.underlying208
 letI:Sym:=symE a4 u4 a5 u5
 have hE:ErrSym:=⟨⟨a4,u4,rfl⟩,⟨a5,u5,rfl⟩⟩
 obtain ⟨oF,f1,f2⟩:=zoW h hF (g:=0) (kk:=.i64) (by kernel_rfl) (by kernel_rfl) Tryz.underlying128 Tryz.underlying127 (by kernel_rfl) rfl rfl rfl Tryz.underlying9 Tryz.underlying3 rfl rfl (by kernel_rfl) (by kernel_rfl) _ (by simp [zbD]) rfl
 obtain ⟨oS,s1,s2⟩:=zpX h hS (g:=2) (kk:=.u8) (by kernel_rfl) (by kernel_rfl) Tryz.underlying233 Tryz.underlying5 (by kernel_rfl) _ rfl
 obtain ⟨st',hl⟩:=hlaw
 refine law_cS zai (zsz hE) hf (l:=zgj) (nx:=12) hl rfl hargs (fun x hx=>?_) globIn tabLt
 simp only [zgj,List.mem_cons,List.not_mem_nil,or_false] at hx
 rcases hx with rfl | rfl | rfl | rfl
 ·exact zqg (i:=6) c4
 ·exact zqg (i:=7) c5
 ·exact ⟨oF,f1,f2 _⟩
 ·exact ⟨oS,s1,s2 _⟩
end Go.Proofs.YtifploedaacedaaGreatDoorE
namespace Go.Proofs.YtifploedaacedaaGreatDoorE
open Go Go.E Go.Proofs
structure SrcOk [Sym] (t:List UInt8):Prop where
 len:t.length≤65536
 src:∀ st:SS,∃ s',cc 29 [] st=some (.string (mkS t),s')∧Ext st s'
theorem romMid {s3:SS} (hll:s3.lim≤s3.next) (wv ev:Value) (e:Nat×Nat) (w1:one wv=true) (w2:one ev=true):∃ s9 s10,((s3.new (.cells NN 0)).new (.cells Z2 0)).stV s3.next 0 2 (zeZ wv ev)=some s9∧s9.stV (s3.next+1) 0 2 (zbw e)=some s10∧Ext s3 s10∧At s10 s3.next [wv,ev]:=by
 have y1:Ext s3 (s3.new (.cells NN 0)):=(Ext.refl _).new _
 have y2:Ext (s3.new (.cells NN 0)) ((s3.new (.cells NN 0)).new (.cells Z2 0)):=(Ext.refl _).new _
 have q1:At ((s3.new (.cells NN 0)).new (.cells Z2 0)) s3.next NN:=(At.new hll NN).ext y2
 have q2:At ((s3.new (.cells NN 0)).new (.cells Z2 0)) (s3.next+1) Z2:=At.new (st:=s3.new (.cells NN 0)) (y1.ll hll) Z2
 obtain ⟨s9,e9,a9,m9,n9⟩:=q1.stV (k:=0) (n:=2) (v:=zeZ wv ev) (vs:=[wv,ev]) rfl rfl (by simp [w1,w2]) (row':=[wv,ev]) rfl
 obtain ⟨s10,e10,a10,m10,n10⟩:=(q2.mod m9 (by simp)).stV (k:=0) (n:=2) (v:=zbw e) (vs:=[.int .i64 e.1,.int .i64 e.2]) rfl rfl rfl (row':=[.int .i64 e.1,.int .i64 e.2]) rfl
 exact ⟨s9,s10,e9,e10,zau (zau (y1.trans y2) m9 (zlr _)) m10 (by omega),a9.mod m10 (by simp)⟩
theorem zoK [Sym] {t:List UInt8} (hs:SrcOk t) {ws:List Wd} {es:List (List UInt8×Int)} (ha:ziZ t=.ok (ws,es)) {st:SS} (hg:Gd st) (hl:st.lim≤st.next):
  ∃ s' wv ev,cc 28 [] st=some (.tuple #[zeZ wv ev,.int .i64 0],s')∧Ext st s'∧Own st.next s' wv (rowsF zc2 ws) 1 ws.length∧Own st.next s' ev (rowsF zgF es) 2 es.length:=by
 have x1:Ext st (st.new (.cells NN 0)):=(Ext.refl _).new _
 have a1:At (st.new (.cells NN 0)) st.next NN:=At.new hl NN
 have hn1:(st.new (.cells NN 0)).next=st.next+1:=rfl
 obtain ⟨s1,hs1⟩:∃ s1,st.new (.cells NN 0)=s1:=⟨_,rfl⟩
 have he1:st.new (.cells [.slice none 0 0,.slice none 0 0] 0)=s1:=hs1
 rw [hs1] at x1 a1 hn1
 obtain ⟨s2,h2,x2⟩:=hs.src s1
 have x02:=x1.trans x2
 have h3:=asm_ok (hg.ext x02) (x02.ll hl) (mkS t) (by rw [zrz];exact hs.len)
 rw [zbB,ha] at h3
 obtain ⟨s3,wv,ev,c3,x3,o1,o2⟩:=h3
 have x03:=x02.trans x3
 obtain ⟨s9,s10,e9,e10,x10,a10⟩:=romMid (x03.ll hl) wv ev (0,0) (Own.cell o1).2 (Own.cell o2).2
 have l12:s10.ldN s3.next 0 2=some (.agg [wv,ev].toArray):=a10.ldN rfl
 have a1':At s10 st.next NN:=a1.ext (x2.trans (x3.trans x10))
 obtain ⟨s13,e13,a13,m13,n13⟩:=a1'.stV (k:=0) (n:=2) (v:=.agg [wv,ev].toArray) (vs:=[wv,ev]) (zaC _) rfl (by simp [(Own.cell o1).2,(Own.cell o2).2]) (row':=[wv,ev]) rfl
 have l14:s13.rdN st.next 0 2=some (.agg [wv,ev].toArray):=a13.rdN rfl
 have t0:∀ (a b c:Value),zal (.tuple #[a,b,c]) 0=some a:=fun _ _ _=>rfl
 have t1:∀ (a b c:Value),zal (.tuple #[a,b,c]) 1=some b:=fun _ _ _=>rfl
 have t2:∀ (a b c:Value),zal (.tuple #[a,b,c]) 2=some c:=fun _ _ _=>rfl
 have hlt:st.next<s2.next:=by have:=x2.next;omega
 refine ⟨s13,wv,ev,znL st ?_,zau (x03.trans x10) m13 (zlr _),?_,?_⟩
 ·simp only [zmu,he1,h2,zob,zab,c3,t0,t1,t2,zaa,SS.new_next,e9,e10,l12,e13,l14]
  rfl
 ·exact ((o1.ext x10).mod m13 fun j k l q e=>by
   obtain ⟨_,⟨e',_⟩ | ⟨i,e',_,_,hb,_⟩⟩:=o1
   ·rw [e'] at e;cases e
   ·rw [e'] at e;cases e;simp;omega).low (by omega)
 ·exact ((o2.ext x10).mod m13 fun j k l q e=>by
   obtain ⟨_,⟨e',_⟩ | ⟨i,e',_,_,hb,_⟩⟩:=o2
   ·rw [e'] at e;cases e
   ·rw [e'] at e;cases e;simp;omega).low (by omega)
theorem remU {a n:Nat} (hn:0<n):(aI .rem .u64 (a:Int) (n:Int)).bind (asI .u64)=some ((a%n:Nat):Int):=by
 have hz:¬ ((n:Int)=0):=by omega
 have:(a:Int).tmod (n:Int)=((a%n:Nat):Int):=by rw [Int.tmod_eq_emod_of_nonneg (by omega),← Int.natCast_emod]
 simp only [aI,zdf hz,zcf,zob,this]
 rfl
theorem zq9 (x:Int):∃ a:Nat,IntKind.wrap .u64 x=(a:Int):=
 ⟨(IntKind.wrap .u64 x).toNat,(Int.toNat_of_nonneg (by unfold IntKind.wrap;simp [IntKind.bits,IntKind.signed];omega)).symm⟩
end Go.Proofs.YtifploedaacedaaGreatDoorE
namespace Go.Proofs.YtifploedaacedaaGreatDoorE
open Go Go.E Go.Proofs
def Free (L:List OL) (j:Nat):Prop:=∀ (k:Nat) (o:OL),L[k]?=some o→blkOf o.v≠some j
structure FrL (b:Nat) (st:SS) (L:List OL) (st':SS) (L':List OL):Prop where
 next:st.next≤st'.next
 lim:st'.lim=st.lim
 keep:∀ j,j<st.next→j≠b→Free L j→st'.mem.get j=st.mem.get j∧Free L' j
section
variable {b B : Nat} {st st' st'' : SS} {L L' L'' : List OL}
theorem FrL.trans (h:FrL b st L st' L') (k:FrL b st' L' st'' L''):FrL b st L st'' L'':=⟨zlt h.next k.next,k.lim.trans h.lim,fun j h1 h2 h3=>by
 obtain ⟨a,c⟩:=h.keep j h1 h2 h3
 obtain ⟨d,e⟩:=k.keep j (zll h1 h.next) h2 c
 exact ⟨d.trans a,e⟩⟩
theorem FrL.ext (x:Ext st st'):FrL b st L st' L:=⟨x.next,x.lim,fun j h1 _ h3=>⟨x.keep j h1,h3⟩⟩
theorem FrL.mod (m:Mod [b] st st'):FrL b st L st' L:=⟨m.next,m.lim,fun j h1 h2 h3=>⟨m.keep j h1 (by simpa using h2),h3⟩⟩
theorem Owns.free (h:Owns B st L) {j:Nat} (hj:j<B):Free L j:=fun k o ho e=>by have:=(zb0 (h.own k o ho) e).1;omega
theorem FrL.at (f:FrL b st L st' L') {j:Nat} {row:List Value} (h:At st j row) (h1:j≠b) (h2:Free L j):At st' j row:=⟨(f.keep j h.lt h1 h2).1.trans h.1,zll h.lt f.next,by rw [f.lim];exact h.2.2⟩
theorem FrL.toExt {st0:SS} (f:FrL b st L st' L') (x:Ext st0 st) (hb:st0.next≤b) (ow:Owns B st L) (hB:st0.next≤B):Ext st0 st':=⟨zlt x.next f.next,f.lim.trans x.lim,fun j hj=>(f.keep j (zll hj x.next) (by omega) (ow.free (by omega))).1.trans (x.keep j hj)⟩
theorem Owns.grow {row:List Value} (ha:At st b row) (hb:b<B) (hB:B≤st.next) (hl:st.lim≤B) (ow:Owns B st L) {k:Nat} {v:Value} {c rw':List Value} {z n bt:Nat} (hk:L[k]?=some ⟨v,c,z,n⟩) (hkr:k<row.length) (hr:rw'.length=z) (hz:0<z) (h1:rw'.all one=true) (hs:(n+2)*bt≤2^44) (hn:n+1≤2^44):
  ∃ w s1 s2,(st.new (.cells rw' z)).app z bt v (.slice (some ⟨st.next,0,none⟩) 1 1)=some (w,s1)∧s1.stV b k 1 w=some s2∧At s2 b (row.set k w)∧Owns B s2 (L.set k ⟨w,c++rw',z,n+1⟩)∧FrL b st L s2 (L.set k ⟨w,c++rw',z,n+1⟩):=by
 obtain ⟨j,s1,f1,f2,f3⟩:=ow.push hk hB hl hr hz h1 hs hn
 have a1:=ha.keepB f3 hb (by simp)
 obtain ⟨s2,e2,a2,m2,n2⟩:=a1.stV (k:=k) (n:=1) (v:=.slice (some ⟨j,0,none⟩) (n+1) (n+1)) (zjf _ _ _) rfl rfl (zk0 hkr _)
 refine ⟨_,s1,s2,f1,e2,a2,f2.modLt m2 (by intro m hm;have e:m=b:=(by simpa using hm);omega),?_⟩
 have hlt:k<L.length:=(List.getElem?_eq_some_iff.1 hk).1
 obtain ⟨j',s1',g1,g2,g3,g4,g5,g6⟩:=zgf (row:=rw') (bt:=bt) (ow.own k _ hk) hB hl hr hz h1 hs hn
 have hsame:=f1.symm.trans g1
 simp only [zsj,zpj,Value.slice.injEq,Addr.mk.injEq,and_true,true_and] at hsame
 obtain ⟨e1,e2'⟩:=hsame
 subst e1
 subst e2'
 refine ⟨zlt f3.next m2.next,m2.lim.trans f3.lim,fun q h1 h2 h3=>⟨(m2.keep q (zll h1 f3.next) (by simpa using h2)).trans (g6 q h1 (h3 k _ hk)),fun m o ho e=>?_⟩⟩
 by_cases hm:m=k
 ·subst hm
  rw [List.getElem?_set_self hlt] at ho
  cases ho
  cases e
  omega
 ·rw [List.getElem?_set_ne (fun e=>hm e.symm)] at ho
  exact h3 m o ho e
end
structure V6 where
 n:Value
 m:Value
 l:Value
 p:Value
 e:Value
 a:Value
def nmR (x:List UInt8×Int):List Value:=[.string (mkS x.1)]
def nuR (x:List UInt8×Int):List Value:=[.int .i64 x.2]
def lnR (x:WItem):List Value:=lnRow x.2
def plR (x:WItem):List Value:=[.int .i64 x.1]
def veR (x:Val×Nat×Nat):List Value:=valRow x.1
theorem zsd (l:Nms):rowsF nmR l=strs (l.map (·.1)):=by
 induction l with
 | nil=>rfl
 | cons x r ih=>rw [zcr,ih];rfl
def LO (v:V6) (l:Lay) (its:List WItem):List OL:=[⟨v.n,rowsF nmR l.nms,1,l.nms.length⟩,⟨v.m,rowsF nuR l.nms,1,l.nms.length⟩,⟨v.l,rowsF lnR its,5,its.length⟩,⟨v.p,rowsF plR its,1,its.length⟩,⟨v.e,rowsF veR l.ents,3,l.ents.length⟩,⟨v.a,rowsF entRow l.ents,2,l.ents.length⟩]
def ldRow (v:V6) (pl:Nat):List Value:=[v.n,v.m,v.l,v.p,v.e,v.a,.int .i64 pl]
structure Rld (st0 st:SS) (B b:Nat) (v:V6) (l:Lay) (its:List WItem):Prop where
 ext:Ext st0 st
 ll:st0.lim≤st0.next
 row:At st b (ldRow v l.pl)
 b0:st0.next≤b
 bB:b<B
 BN:B≤st.next
 ow:Owns B st (LO v l its)
 wds:its.map (fun x=>(x.1,x.2.1))=l.wds
 itr:∀ x∈its,Rd st0 x.2.2.1 (rowsF valRow x.2.1.args) 3 x.2.1.args.length∧Rd st0 x.2.2.2 (rowsF prRow x.2.1.prs) 5 x.2.1.prs.length
section
variable {st0 st st' : SS} {B b : Nat} {v : V6} {l : Lay} {its : List WItem}
theorem Rld.then (h:Rld st0 st B b v l its) (x:Ext st st'):Rld st0 st' B b v l its:=
 { h with ext:=h.ext.trans x,row:=h.row.ext x,BN:=zlt h.BN x.next,ow:=h.ow.ext x }
theorem Rld.limB (h:Rld st0 st B b v l its):st.lim≤B:=by rw [h.ext.lim];have:=h.ll;have:=h.b0;have:=h.bB;omega
theorem Rld.place (h:Rld st0 st B b v l its) (p:Nat):∃ st',st.st b 6 [.int .i64 p]=some st'∧Rld st0 st' B b v { l with pl:=p } its∧Mod [b] st st':=by
 obtain ⟨s',e,a,m,_⟩:=h.row.sto (k:=6) (vs:=[.int .i64 p]) (row':=ldRow v p) rfl rfl
 exact ⟨s',e,{ h with ext:=zau h.ext m h.b0,row:=a,BN:=zlt h.BN m.next,ow:=h.ow.modLt m (by intro j hj;have e:j=b:=(by simpa using hj);have:=h.bB;omega) },m⟩
theorem znO:∀ (l:Nms) (n:List UInt8),match zbd l n with
  | none=>inT (l.map (·.1)) n= -1
  | some x=>∃ k:Nat,inT (l.map (·.1)) n=k∧∃ y,l[k]?=some (y,x)
 | [],n=>rfl
 | a::r,n=>by
   have ih:=znO r n
   unfold zbd inT
   rw [List.find?_cons,List.map_cons,List.findIdx?_cons]
   by_cases h:n=a.1
   ·rw [zdt h,zdt h.symm]
    exact ⟨0,rfl,a.1,rfl⟩
   ·rw [zdf h,zdf (fun e=>h e.symm)]
    unfold zbd inT at ih
    simp only
    cases hf:r.find? (fun x=>decide (n=x.1)) with
    | none=>
      rw [hf] at ih
      cases hi:(r.map (·.1)).findIdx? (fun x=>decide (x=n)) with
      | none=>simp [hi]
      | some k=>rw [hi] at ih;simp at ih
    | some y=>
      rw [hf] at ih
      simp only [Option.map_some] at ih ⊢
      obtain ⟨k,h1,h2⟩:=ih
      cases hi:(r.map (·.1)).findIdx? (fun x=>decide (x=n)) with
      | none=>rw [hi] at h1;simp at h1
      | some j=>
        rw [hi] at h1
        refine ⟨j+1,by simp,?_⟩
        have:k=j:=by simp only at h1;omega
        subst this
        simpa using h2
theorem Rld.define [Sym] (h:Rld st0 st B b v l its) (hsz:l.nms.length≤1000000) (n:List UInt8) (x:Int):
  match l.define n x with
  | none=>∃ st',cc 74 [ptr b 0,.string (mkS n),.int .i64 x] st=some (.bool false,st')∧Ext st st'
  | some l'=>∃ st' v',cc 74 [ptr b 0,.string (mkS n),.int .i64 x] st=some (.bool true,st')∧Rld st0 st' B b v' l' its∧FrL b st (LO v l its) st' (LO v' l' its):=by
 have hnl:zar (ptr b 0)=some (ptr b 0):=rfl
 have l3:st.ld b 0=some v.n:=h.row.ld
 have on:Rd st v.n (strs (l.nms.map (·.1))) 1 (l.nms.map (·.1)).length:=by
  have:=(h.ow.own 0 _ rfl).rd
  rw [zsd] at this
  rw [List.length_map]
  exact this
 obtain ⟨n4,hn4,c4⟩:=in_ok (l.nms.map (·.1)) (by simp;omega) (mkS n) v.n st on
 rw [zbB] at c4
 have x4:Ext st (st.adv n4):=(Ext.refl _).adv hn4
 have hfi:=znO l.nms n
 unfold Lay.define
 cases hf:zbd l.nms n with
 | some y=>
   rw [hf] at hfi
   obtain ⟨k,h1,_⟩:=hfi
   rw [if_pos (.inl rfl)]
   refine ⟨_,zbK _ _ _ st ?_,x4⟩
   have h0:(0:Int)≤inT (l.nms.map (·.1)) n:=by omega
   simp only [zbx,hnl,zob,zaf,l3,c4,zaa,zdt h0,zct]
 | none=>
   rw [hf] at hfi
   simp only at hfi
   have h0:¬ (0:Int)≤inT (l.nms.map (·.1)) n:=by omega
   have he:eqT (mkS n) ⟨#[]⟩=decide (n=[]):=zdx _
   by_cases hn:n=[]
   ·rw [if_pos (.inr hn)]
    refine ⟨_,zbK _ _ _ st ?_,x4⟩
    simp only [zbx,hnl,zob,zaf,l3,c4,zaa,zdf h0,zcf,he,zdt hn,zct]
   ·rw [if_neg (by rintro (e | e);cases e;exact hn e)]
    have h4:=h.then x4
    have l8:(st.adv n4).ld b 0=some v.n:=h4.row.ld
    obtain ⟨w1,s10,s13,f1,f2,f3,f4,f5⟩:=Owns.grow (k:=0) (bt:=16) (rw':=nmR (n,x)) h4.row h4.bB h4.BN h4.limB h4.ow rfl (by simp [ldRow]) rfl (by omega) rfl (by omega) (by omega)
    have f1':((st.adv n4).new (.cells [.string (mkS n)] 1)).app 1 16 v.n (.slice (some ⟨n4,0,none⟩) 1 1)=some (w1,s10):=f1
    have l16:s13.ld b (0+1)=some v.m:=f3.ld
    obtain ⟨w2,s18,s21,g1,g2,g3,g4,g5⟩:=Owns.grow (k:=1) (bt:=8) (rw':=nuR (n,x)) f3 h4.bB (zlt h4.BN f5.next) (by rw [f5.lim];exact h4.limB) f4 rfl (by simp [ldRow]) rfl (by omega) rfl (by omega) (by omega)
    have g1':(s13.new (.cells [.int .i64 x] 1)).app 1 8 v.m (.slice (some ⟨s13.next,0,none⟩) 1 1)=some (w2,s18):=g1
    have g2':s18.stV b (0+1) 1 w2=some s21:=g2
    have e2:LO { v with n:=w1,m:=w2 } { l with nms:=l.nms++[(n,x)] } its=((LO v l its).set 0 ⟨w1,rowsF nmR l.nms++nmR (n,x),1,l.nms.length+1⟩).set 1 ⟨w2,rowsF nuR l.nms++nuR (n,x),1,l.nms.length+1⟩:=by
     simp only [LO,zbR,zcN,List.length_append,List.length_cons,List.length_nil]
     rfl
    have fr:FrL b st (LO v l its) s21 (LO { v with n:=w1,m:=w2 } { l with nms:=l.nms++[(n,x)] } its):=by
     rw [e2]
     exact ((FrL.ext x4).trans f5).trans g5
    refine ⟨s21,{ v with n:=w1,m:=w2 },zbK _ _ _ st ?_,{ h with ext:=fr.toExt h.ext h.b0 h.ow (by have:=h.b0;have:=h.bB;omega),row:=g3,BN:=zlt h.BN fr.next,ow:=by rw [e2];exact g4 },fr⟩
    simp only [zbx,hnl,zob,zaf,l3,c4,zaa,zdf h0,zcf,he,zdf hn,l8,List.append_nil,SS.adv_next,f1',f2,l16,g1',g2']
end
end Go.Proofs.YtifploedaacedaaGreatDoorE
namespace Go.Proofs.YtifploedaacedaaGreatDoorE
open Go Go.E Go.Proofs
theorem zmw {nms:Nms} {N:Nat}:∀ (xs:List (Nat×PLine)) (ws ws':List Wd),(∀ w∈ws,zlM w)→zb1 nms N xs ws=.ok ws'→∀ w∈ws',zlM w
 | [],ws,ws',hw,h=>by cases h;exact hw
 | x::r,ws,ws',hw,h=>by
   unfold zb1 at h
   split at h
   ·cases h
   ·split at h
    ·cases h
    ·refine zmw r _ ws' (fun w hm=>?_) h
     rcases List.mem_or_eq_of_mem_set hm with h1 | h1
     ·exact hw w h1
     ·rw [h1];exact zoE _ _
theorem ztb {t:List UInt8} {ws:List Wd} {es:List (List UInt8×Int)} (h:ziZ t=.ok (ws,es)):(∀ w∈ws,zlM w)∧ws.length≤2048:=by
 unfold ziZ at h
 cases hp:zfH t with
 | error z=>rw [hp] at h;cases h
 | ok xs=>
   rw [hp] at h
   simp only at h
   cases hl:zfm zfn xs with
   | error z=>rw [hl] at h;cases h
   | ok l=>
     rw [hl] at h
     obtain ⟨hok,hlen⟩:=zoC hp
     obtain ⟨hL,_⟩:=zoD xs zfn l (zlL _) hok hl
     simp only [zgg] at h
     cases hw:zb1 l.nms (sizeT l) l.wds (List.replicate (sizeT l) zaK) with
     | error z=>rw [hw] at h;cases h
     | ok ws'=>
       rw [hw] at h
       simp only at h
       cases he:zdY l.nms (sizeT l) l.ents with
       | error z=>rw [he] at h;cases h
       | ok es'=>
         rw [he] at h
         cases h
         refine ⟨zmw _ _ _ (fun w hm=>by rw [List.eq_of_mem_replicate hm];exact znF) hw,?_⟩
         rw [zfM _ _ _ hw,List.length_replicate]
         exact (zkf hL).2
end Go.Proofs.YtifploedaacedaaGreatDoorE
namespace Go.Proofs.YtifploedaacedaaGreatDoorE
open Go Go.E Go.Proofs
def iRow (n:Int):List Value:=[.int .u64 n]
theorem zoL (ws:List Wd):rowsF zc2 ws=rowsF iRow (ws.map zfG):=by
 unfold rowsF
 rw [List.flatMap_map]
 rfl
theorem zse:eqT (mkS ucS0) ⟨#[111,116,104,101,114]⟩=false:=by kernel_rfl
theorem zra [Sym] {t:List UInt8} (hs:SrcOk t) {ws:List Wd} {es:List (List UInt8×Int)} (ha:ziZ t=.ok (ws,es)) (h0:0<ws.length) (hN:ws.length≤1000000) (at0 x:Int):∃ st',cc 9 [.int .i64 at0,.int .u64 x] st0=some (.bool true,st'):=by
 have hl0:st0.lim≤st0.next:=zlr _
 obtain ⟨s1,hal,x1⟩:=zsc st0
 obtain ⟨s2,wv,ev,c2,x2,o1,o2⟩:=zoK hs ha (gd0.ext x1) (x1.ll hl0)
 have x02:=x1.trans x2
 have tu0:∀ (a b:Value),zal (.tuple #[a,b]) 0=some a:=fun _ _=>rfl
 have tu1:∀ (a b:Value),zal (.tuple #[a,b]) 1=some b:=fun _ _=>rfl
 obtain ⟨s7,e7,a7,x7,n7⟩:=za4 (n:=2) (st:=s2) (x02.ll hl0) (r:=NN) (row:=[wv,ev]) (v:=zeZ wv ev) rfl rfl (by simp [(Own.cell o1).2,(Own.cell o2).2]) rfl
 have e7':(s2.new (.cells [.slice none 0 0,.slice none 0 0] 0)).stV s2.next 0 2 (zeZ wv ev)=some s7:=e7
 have x07:=x02.trans x7
 have l8:s7.ld s2.next 0=some wv:=a7.ld
 have hlen:(lenV wv).bind (asI .i64)=some (ws.length:Int):=by rw [o1.len];rfl
 obtain ⟨a,hwa⟩:=zq9 at0
 have hwn:IntKind.wrap .u64 (ws.length:Int)=(ws.length:Int):=zea (by omega) (by omega)
 have hrem:=remU (a:=a) h0
 have hi:=Nat.mod_lt a h0
 have hw15:IntKind.wrap .i64 ((a%ws.length:Nat):Int)=((a%ws.length:Nat):Int):=wrap64 (by omega) (by omega)
 generalize a%ws.length=i at*
 have hn0:¬ ((ws.length:Int)=0):=by omega
 have op:=o1.ext x7
 rw [zoL] at op
 obtain ⟨X,hX⟩:∃ X,(ws.map zfG)[i]?=some X:=⟨_,zge (by rw [List.length_map];exact hi)⟩
 obtain ⟨p,p1,_,p3⟩:=op.rd.load (j:=(i:Int)) (by omega) (by omega) (zbm (f:=iRow) (z:=1) (fun _=>rfl) _ i X hX) rfl
 have l18:s7.ld p.1 p.2=some (.int .u64 X):=p3 0 (by omega)
 obtain ⟨b,s21,q1,qb,qlt,q2,_,_,m21,n21⟩:=Own.put (f:=iRow) (z:=1) (fun _=>rfl) op (List.length_map ..) (by rw [x07.lim];exact zlt hl0 x1.next) hi x rfl
 have l20:s7.st b (i*1) [.int .u64 x]=some s21:=q2
 have hb0:st0.next≤b:=zlt x1.next qb
 have x021:Ext st0 s21:=zau x07 m21 hb0
 obtain ⟨s22,v22,c22,x22,o22⟩:=zib s21
 obtain ⟨b23,s24,q23,qb23,_,q24,_,_,m24,n24⟩:=Own.put (f:=strRow) (z:=1) (k:=0) (fun _=>rfl) o22 rfl (by rw [(x021.trans x22).lim];exact zlt hl0 x021.next) (by omega) [111,116,104,101,114] rfl
 have q23':zas v22 0 1=some (b23,0):=q23
 have q24':s22.st b23 0 [.string ⟨#[111,116,104,101,114]⟩]=some s24:=q24
 have x024:Ext st0 s24:=zau (x021.trans x22) m24 (zlt x021.next qb23)
 obtain ⟨s25,v25,c25,x25,o25⟩:=zi3 s24
 obtain ⟨b26,s27,q26,qb26,_,q27,_,_,m27,n27⟩:=Own.put (f:=strRow) (z:=1) (k:=0) (fun _=>rfl) o25 rfl (by rw [(x024.trans x25).lim];exact zlt hl0 x024.next) (by omega) [111,116,104,101,114] rfl
 have q26':zas v25 0 1=some (b26,0):=q26
 have q27':s25.st b26 0 [.string ⟨#[111,116,104,101,114]⟩]=some s27:=q27
 have x027:Ext st0 s27:=zau (x024.trans x25) m27 (zlt x024.next qb26)
 obtain ⟨s28,wv',ev',c28,x28,o1',o2'⟩:=zoK hs ha (gd0.ext x027) (x027.ll hl0)
 have x028:=x027.trans x28
 obtain ⟨s32,e32,a32,x32,n32⟩:=za4 (n:=2) (st:=s28) (x028.ll hl0) (r:=NN) (row:=[wv',ev']) (v:=zeZ wv' ev') rfl rfl (by simp [(Own.cell o1').2,(Own.cell o2').2]) rfl
 have e32':(s28.new (.cells [.slice none 0 0,.slice none 0 0] 0)).stV s28.next 0 2 (zeZ wv' ev')=some s32:=e32
 have l33:s32.ld s28.next 0=some wv':=a32.ld
 have op':=o1'.ext x32
 rw [zoL] at op'
 obtain ⟨p',r1,_,r3⟩:=op'.rd.load (j:=(i:Int)) (by omega) (by omega) (zbm (f:=iRow) (z:=1) (fun _=>rfl) _ i X hX) rfl
 have l35:s32.ld p'.1 p'.2=some (.int .u64 X):=r3 0 (by omega)
 obtain ⟨s36,v36,c36,x36,o36⟩:=zib s32
 obtain ⟨p37,y1,y2⟩:=zjh o36.rd (ls:=zfi) (i:=0) rfl
 have y1':zas v36 0 1=some p37:=y1
 obtain ⟨s39,v39,c39,x39,o39⟩:=zi3 s36
 obtain ⟨p40,z1,z2⟩:=zjh o39.rd (ls:=zi0) (i:=0) rfl
 have z1':zas v39 0 1=some p40:=z1
 have hf:eqT (mkS [102,101,116,99,104]) ⟨#[102,101,116,99,104]⟩=true:=by kernel_rfl
 have au:∀ n:Int,asI .u64 (.int .u64 n)=some n:=fun _=>rfl
 have d0:decide ((0:Int)=0)=true:=rfl
 refine ⟨s39,zfh _ _ st0 ?_⟩
 simp only [zdq,hal,zob,zam,znt,zcf,c2,tu0,tu1,zaa,e7',d0,l8,hlen,zdf hn0,hwa,hwn]
 rw [hrem]
 simp only [zob,hw15,p1,l18,au]
 rw [p1] at q1
 cases q1
 simp only [l20,zob,c22,q23',q24',c25,q26',q27',c28,tu0,tu1,zaa,e32',d0,zct,l33,r1,l35,au,decide_true,c36,y1',y2,zab,hf,znt,zcf,c39,z1',z2,zse,znf]
theorem ucodeKeeps_ok [Sym] (at0 x:Int):∃ st',cc 9 [.int .i64 at0,.int .u64 x] st0=some (.bool true,st'):=by
 obtain ⟨ws,es,h1,h2,_⟩:=zs9
 exact zra ⟨zmv,zq7⟩ h1 h2 (by have:=(ztb h1).2;omega) at0 x
end Go.Proofs.YtifploedaacedaaGreatDoorE
