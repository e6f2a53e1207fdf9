/- Parts of the proof of UcodeBuilds, packed by a program: an evaluator over the given code, functions as plain texts, their laws. -/
import Derived.Test.YtifploedaacedaaGreatDoorPBE
set_option linter.unusedVariables false
set_option linter.unusedSimpArgs false
namespace Go.Proofs.YtifploedaacedaaGreatDoorE
open Go Go.E Go.Proofs
theorem zv1 (ps:List (List UInt8)) (i:Nat) (e:Nat×Nat) (h:zZ i ps=.error e):0<e.1:=by
 induction ps generalizing i with
 | nil=>cases h
 | cons p r ih=>
   unfold zZ at h
   split at h
   ·cases h;exact Nat.succ_pos _
   ·split at h
    ·rename_i hz;cases h;exact ih _ hz
    ·cases h
theorem zsP (ps:List (List Tok)) (i:Nat) (e:Nat×Nat) (h:Bq i ps=.error e):0<e.1:=by
 induction ps generalizing i with
 | nil=>cases h
 | cons p r ih=>
   unfold Bq at h
   split at h
   ·cases h;exact Nat.succ_pos _
   ·split at h
    ·rename_i hz;cases h;exact ih _ hz
    ·cases h
theorem zv2 {l:List UInt8} {e:Nat×Nat} (h:Ec l=.error e):0<e.1:=by
 unfold Ec at h
 split at h
 ·rename_i hz;cases h;exact zv1 _ _ _ hz
 ·exact zsP _ _ _ h
def w12 (w:Wd):List Value:=(List.range 12).map fun k=>.int .i64 (w.getD k 0)
theorem X6 (w:Wd):(w12 w).length=12:=by simp [w12]
theorem zyh (w:Wd):(w12 w).all one=true:=by simp [w12,one]
theorem zv3 {w:Wd} (h:w.length=12):w12 w=wRow w:=by
 obtain ⟨a,b,c,d,e,f,g,i,j,k,l,m,rfl⟩:=Z4 h
 rfl
theorem zyi (n:Nat):EU mP (n:Int)=ak w12 (List.replicate n ny):=by
 have h1:∀ k,k<12→(mP.toArray[k]! :Value)=.int .i64 0:=by
  intro k hk
  match k,hk with
  | 0,_=>rfl
  | 1,_=>rfl
  | 2,_=>rfl
  | 3,_=>rfl
  | 4,_=>rfl
  | 5,_=>rfl
  | 6,_=>rfl
  | 7,_=>rfl
  | 8,_=>rfl
  | 9,_=>rfl
  | 10,_=>rfl
  | 11,_=>rfl
 have h2:EU mP (n:Int)=List.replicate (n*12) (.int .i64 0):=by
  unfold EU
  rw [Int.toNat_natCast,show mP.length=12 from rfl]
  apply List.ext_getElem
  ·simp
  ·intro i a b
   simp only [Array.toList_map,Array.toList_range,List.getElem_map,List.getElem_range,List.getElem_replicate]
   exact h1 _ (Nat.mod_lt _ (by omega))
 rw [h2]
 clear h2
 induction n with
 | zero=>rfl
 | succ n ih=>
   rw [List.replicate_succ,Kr,← ih,Nat.add_mul,Nat.add_comm,← List.replicate_append_replicate]
   rfl
def Xg (base st0:SS) (B b t4:Nat) (res:Option (Nat×List Value×SS)):Except (Nat×Nat) Lay→Prop
 | .error e=>∃ s',res=some (1,[.slice none 0 0,.slice none 0 0,ptr t4 0],s')∧Ext base s'∧At s' t4 [.int .i64 e.1,.int .i64 e.2]
 | .ok l=>∃ s' v its,res=some (0,[ptr t4 0,ptr b 0],s')∧zW st0 s' B b v l its
theorem zxc [Sym] {base st0:SS} {B b M:Nat} (hM:M≤100000) (items:List Item) (hits:items.length≤99999) (hok:∀ x∈items,pq M x.1∧0<x.1.ln) (v:Value) (hv:Rd st0 v (ak dh items) 5 items.length)
  (hrd:∀ x∈items,Rd st0 x.2.1 (ak au x.1.args) 3 x.1.args.length∧Rd st0 x.2.2 (ak fB x.1.fC) 5 x.1.fC.length) (hx0:Ext base st0) (hb2:base.next+1≤st0.next) (a4:At st0 base.next Z2):
  ∀ (k j:Nat) (l:Lay) (vv:V6) (its:List mV) (s:SS),items.length=k+j→zW st0 s B b vv l its→nH M l→l.ents.length≤j→l.nms.length≤2*j→
  Xg base st0 B b base.next (vY 6 [ptr base.next 0,ptr b 0,v,.int .i64 items.length,.int .i64 j] s) (AP l ((items.drop j).map (·.1))):=by
 intro k
 induction k with
 | zero=>
   intro j l vv its s hk hB hL hen hnm
   have h:¬ (j:Int)<(items.length:Int):=by omega
   rw [List.drop_of_length_le (by omega)]
   refine ⟨s,vv,its,zcX _ _ _ _ _ s ?_,hB⟩
   simp only [Y9,bg h,dn]
 | succ k ih=>
   intro j l vv its s hk hB hL hen hnm
   have h:(j:Int)<(items.length:Int):=by omega
   obtain ⟨x,hx⟩:∃ x,items[j]?=some x:=⟨_,mW (by omega)⟩
   have hmem:=xH hx
   have hd:=drop_cons hx
   have hil:its.length≤2048:=by
    have h1:=hL.FZ
    have h2:=hL.pl
    rw [← hB.ni,List.length_map] at h1
    omega
   obtain ⟨p1,b1,b2,_⟩:=(hv.ext hB.ext).load (j:=(j:Int)) (by omega) h (xw (f:=dh) (z:=5) (fun _=>rfl) items j x hx) rfl
   have b2':s.eF p1.1 p1.2 5=some (.agg (dh x).toArray):=b2
   have ho:one x.2.1=true∧one x.2.2=true:=⟨L9 (hrd x hmem).1,L9 (hrd x hmem).2⟩
   obtain ⟨s4,e4,c4,x4,n4⟩:=pX (n:=5) (st:=s) hB.SK (r:=dh (⟨0,[],[],[],[]⟩,.slice none 0 0,.slice none 0 0)) (row:=dh x) (v:=.agg (dh x).toArray) (lU _) rfl (by
    simp only [dh,List.all_cons,List.all_nil,ho.1,ho.2]
    rfl) rfl
   have e4':(s.new (.cells [.int .i64 0,.string ⟨#[]⟩,.string ⟨#[]⟩,.slice none 0 0,.slice none 0 0] 0)).eH s.next 0 5 (.agg (dh x).toArray)=some s4:=e4
   have l5:s4.eF s.next 0 5=some (.agg (dh x).toArray):=c4.eF rfl
   have h4:=hB.then x4
   have hf:=zv0 h4 x (hrd x hmem) hL.pl (by omega) (by omega) (by omega) (by have:=(hok x hmem).1.sa;omega)
   have hL6:AP l ((items.drop j).map (·.1))=match Hl l x.1 with
    | none=>.error (x.1.ln,1)
    | some l'=>AP l' ((items.drop (j+1)).map (·.1)):=by rw [hd];rfl
   rw [hL6]
   cases hln:Hl l x.1 with
   | none=>
     rw [hln] at hf
     obtain ⟨s6,L6,c6,f6⟩:=hf
     have hbb:st0.next≤B:=by have:=hB.b0;have:=hB.bB;omega
     have a46:At s6 s.next (dh x):=f6.at c4 (by have:=hB.bB;have:=hB.BN;omega) (hB.ow.Fp (fF _))
     have a26:At s6 base.next Z2:=f6.at (a4.ext h4.ext) (by have:=hB.b0;omega) (hB.ow.free (by omega))
     have x6:Ext base s6:=f6.xK (hx0.trans h4.ext) (by have:=hB.b0;omega) h4.ow (by omega)
     have l8:s6.ld s.next 0=some (.int .i64 x.1.ln):=a46.ld
     obtain ⟨s10,e10,a10,m10,n10⟩:=a26.pU (k:=0) (vs:=[.int .i64 x.1.ln,.int .i64 1]) (row':=[.int .i64 x.1.ln,.int .i64 1]) rfl rfl
     refine ⟨s10,zcX _ _ _ _ _ s ?_,pO x6 m10 (fF _),a10⟩
     simp only [Y9,zdt h,cu,b1,b2',e4',l5,c6,bf,mg,nJ,l8,eP,fZ,e10]
   | some l'=>
     rw [hln] at hf
     obtain ⟨s6,v',oP,c6,h6,_⟩:=hf
     obtain ⟨g1,g2⟩:=zox hL (hok x hmem).1 (hok x hmem).2 hln
     have g3:=zqP hln
     have next:=ih (j+1) l' v' oP s6 (by omega) h6 g1 (by omega) (by omega)
     have hw1:=ru (i:=j) (by omega)
     have step:∀ z,vY 6 [ptr base.next 0,ptr b 0,v,.int .i64 items.length,.int .i64 ((j+1:Nat):Int)] s6=some z→vY 6 [ptr base.next 0,ptr b 0,v,.int .i64 items.length,.int .i64 j] s=some z:=fun z hz=>by
      refine zcX _ _ _ _ _ s ?_
      simp only [Y9,zdt h,cu,b1,b2',e4',l5,c6,bf,mg,lY,dn,hw1]
      exact hz
     simp only
     cases hz:AP l' ((items.drop (j+1)).map (·.1)) with
     | error e=>
       rw [hz] at next
       obtain ⟨s',d1,d2⟩:=next
       exact ⟨s',step _ d1,d2⟩
     | ok l2=>
       rw [hz] at next
       obtain ⟨s',w3,w4,d1,d2⟩:=next
       exact ⟨s',w3,w4,step _ d1,d2⟩
theorem zv4 [Sym] {base0 base st0:SS} (hx0:Ext base st0) (hll:base.lim≤base.next) (hbb:Ext base0 base) {T:List (Int×Int)} (hT:∀ t∈T,0≤t.1∧t.1≤100000∧0≤t.2∧t.2≤100000) (hTl:T.length≤10) {x:Item} {b' w' t69 v wv:Value} {i' n j:Int} {t4 xb N:Nat}
  (hN:(lenV wv).bind (ay .i64)=some (N:Int)) (a4:At st0 t4 Z2) (ax:At st0 xb (dh x)) (h4:base0.next≤t4) (p0:Pr) (ps:List Pr) (hps:x.1.fC=p0::ps) (hp:Rd base x.2.2 (ak fB x.1.fC) 5 x.1.fC.length)
  (hv:Rd st0 v (ak Aa T) 2 T.length):∀ (k i:Nat) (s:SS),T.length=k+i→Ext st0 s→
  ∃ s',if D8 N (T.drop i)=true then vY 21 [ptr t4 0,b',wv,.int .i64 i',ptr xb 0,w',t69,.int .i64 n,.int .i64 j,v,.int .i64 T.length,.int .i64 i] s=some (1,[.slice none 0 0,.slice none 0 0,ptr t4 0],s')∧Ext base0 s'∧At s' t4 [.int .i64 x.1.ln,.int .i64 p0.col]
   else vY 21 [ptr t4 0,b',wv,.int .i64 i',ptr xb 0,w',t69,.int .i64 n,.int .i64 j,v,.int .i64 T.length,.int .i64 i] s=some (0,[ptr t4 0,b',wv,.int .i64 i',w',t69,.int .i64 n,.int .i64 j],s')∧Ext st0 s':=by
 intro k
 induction k with
 | zero=>
   intro i s hk he
   have h:¬ (i:Int)<(T.length:Int):=by omega
   rw [List.drop_of_length_le (by omega)]
   refine ⟨s,?_⟩
   rw [if_neg (by simp [D8])]
   refine ⟨zcJ _ _ _ _ _ _ _ _ _ _ _ _ s ?_,he⟩
   simp only [Zd,bg h,dn]
 | succ k ih=>
   intro i s hk he
   have h:(i:Int)<(T.length:Int):=by omega
   obtain ⟨t,ht⟩:∃ t,T[i]?=some t:=⟨_,mW (by omega)⟩
   obtain ⟨q1,q2,q3,q4⟩:=hT t (xH ht)
   obtain ⟨p,b1,b2,_⟩:=(hv.ext he).load (j:=(i:Int)) (by omega) h (xw (f:=Aa) (z:=2) (fun _=>rfl) T i t ht) rfl
   have b2':s.eF p.1 p.2 2=some (.agg (Aa t).toArray):=b2
   have hlm:s.lim≤s.next:=((hx0.trans he).ll hll)
   obtain ⟨s4,e4,c4,x4,n4⟩:=pX (st:=s) hlm (r:=Z2) (row:=Aa t) (v:=.agg (Aa t).toArray) (lU _) rfl rfl rfl
   have e4':(s.new (.cells [.int .i64 0,.int .i64 0] 0)).eH s.next 0 2 (.agg (Aa t).toArray)=some s4:=e4
   have he4:=he.trans x4
   have c5:sQ (ptr s.next 0) 2 0 1=some (s.next,0):=rfl
   have c7:sQ (ptr s.next 0) 2 1 1=some (s.next,1):=rfl
   have l6:s4.ld s.next 0=some (.int .i64 t.1):=c4.ld
   have l8:s4.ld s.next 1=some (.int .i64 t.2):=c4.ld
   have V4:IntKind.wrap .i64 (t.1+t.2)=t.1+t.2:=wrap64 (by omega) (by omega)
   have hd:=drop_cons ht
   by_cases hc:(N:Int)<t.1+t.2
   ·obtain ⟨GU,f1,_,f3⟩:=((hp.ext hx0).ext he4).load (j:=(0:Int)) (by omega) (by rw [hps];simp) (row:=fB p0) (by rw [hps];rfl) rfl
    have D7:s4.ld GU.1 (GU.2+1)=some (.int .i64 p0.col):=f3 1 (by omega)
    have xC:s4.ld xb 0=some (.int .i64 x.1.ln):=(ax.ext he4).ld
    have Fg:s4.ld xb (0+4)=some x.2.2:=(ax.ext he4).ld
    obtain ⟨xQ,e22,a22,m22,n22⟩:=(a4.ext he4).pU (k:=0) (vs:=[.int .i64 x.1.ln,.int .i64 p0.col]) (row':=[.int .i64 x.1.ln,.int .i64 p0.col]) rfl rfl
    refine ⟨xQ,?_⟩
    rw [if_pos (by unfold D8;rw [hd,List.any_cons,zdt hc];rfl)]
    refine ⟨zcJ _ _ _ _ _ _ _ _ _ _ _ _ s ?_,pO (hbb.trans (hx0.trans he4)) m22 h4,a22⟩
    simp only [Zd,zdt h,cu,b1,b2',e4',c5,c7,l6,l8,bf,eP,V4,fZ,hN,zdt hc,xC,Fg,f1,D7,e22]
   ·obtain ⟨s',hs'⟩:=ih (i+1) s4 (by omega) he4
    have hw1:=ru (i:=i) (by omega)
    refine ⟨s',?_⟩
    have e:D8 N (T.drop i)=D8 N (T.drop (i+1)):=by unfold D8;rw [hd,List.any_cons,bg hc,Bool.false_or]
    rw [e]
    have go:∀ z,vY 21 [ptr t4 0,b',wv,.int .i64 i',ptr xb 0,w',t69,.int .i64 n,.int .i64 j,v,.int .i64 T.length,.int .i64 ((i+1:Nat):Int)] s4=some z→vY 21 [ptr t4 0,b',wv,.int .i64 i',ptr xb 0,w',t69,.int .i64 n,.int .i64 j,v,.int .i64 T.length,.int .i64 i] s=some z:=fun z hz=>by
     refine zcJ _ _ _ _ _ _ _ _ _ _ _ _ s ?_
     simp only [Zd,zdt h,cu,b1,b2',e4',c5,c7,l6,l8,bf,eP,V4,hN,bg hc,dn,hw1]
     exact hz
    split
    ·rename_i hh
     rw [if_pos hh] at hs'
     exact ⟨go _ hs'.1,hs'.2⟩
    ·rename_i hh
     rw [if_neg hh] at hs'
     exact ⟨go _ hs'.1,hs'.2⟩
def Xf (base0 base:SS) (t4 N:Nat) (b' wv:Value) (res:Option (Nat×List Value×SS)):Except (Nat×Nat) (List Wd)→Prop
 | .error e=>∃ s',res=some (1,[.slice none 0 0,.slice none 0 0,ptr t4 0],s')∧Ext base0 s'∧At s' t4 [.int .i64 e.1,.int .i64 e.2]
 | .ok ws=>∃ s',res=some (0,[ptr t4 0,b',wv],s')∧Ext base s'∧Own base.next s' wv (ak w12 ws) 12 N∧ws.length=N
theorem zv5 [Sym] {base0 st0 base:SS} {B b M t4:Nat} {v:V6} {wv:Value} {l:Lay} {its:List mV} (hB:zW st0 base B b v l its) (hL:nH M l) (hM:M≤100000) (hnm:l.nms.length≤1000000) (hbb:Ext base0 base) (h4:base0.next≤t4) (a4:At base t4 Z2)
  (hN:(lenV wv).bind (ay .i64)=some ((sizeT l:Nat):Int)):∀ (k j:Nat) (ws:List Wd) (s:SS),its.length=k+j→ws.length=sizeT l→Ext base s→Own base.next s wv (ak w12 ws) 12 (sizeT l)→
  Xf base0 base t4 (sizeT l) (ptr b 0) wv (vY 15 [ptr t4 0,ptr b 0,wv,v.l,.int .i64 its.length,.int .i64 j] s) (AV l.nms (sizeT l) (l.ni.drop j) ws):=by
 have hll:base.lim≤base.next:=hB.SK
 have hil:its.length≤2048:=by
  have h1:=hL.FZ
  have h2:=hL.pl
  rw [← hB.ni,List.length_map] at h1
  omega
 obtain ⟨hat,hNb⟩:=TT hL
 intro k
 induction k with
 | zero=>
   intro j ws s hk hws he ow
   have h:¬ (j:Int)<(its.length:Int):=by omega
   have hd:l.ni.drop j=[]:=List.drop_of_length_le (by rw [← hB.ni,List.length_map];omega)
   rw [hd]
   refine ⟨s,Zn _ _ _ _ _ _ s ?_,he,ow,hws⟩
   simp only [UZ,bg h,dn]
 | succ k ih=>
   intro j ws s hk hws he ow
   have h:(j:Int)<(its.length:Int):=by omega
   obtain ⟨x,hx⟩:∃ x,its[j]?=some x:=⟨_,mW (by omega)⟩
   have hwx:l.ni[j]?=some (x.1,x.2.1):=by rw [← hB.ni,List.getElem?_map,hx];rfl
   have hmem:=xH hwx
   obtain ⟨hlo,Cb,hln⟩:=hL.fC _ hmem
   have Qi:x.1<sizeT l:=hat _ hmem
   have hd:=drop_cons hwx
   obtain ⟨p0,ps,hps⟩:∃ p0 ps,x.2.1.fC=p0::ps:=by
    cases hp:x.2.1.fC with
    | nil=>exact absurd hp Cb
    | cons a r=>exact ⟨a,r,rfl⟩
   have hsb:=hB.then he
   have hlm:s.lim≤s.next:=he.ll hll
   obtain ⟨p1,b1,b2,_⟩:=(hsb.ow.own 2 _ rfl).rd.load (j:=(j:Int)) (by omega) h (xw (f:=SI) (z:=5) (fun _=>rfl) its j x hx) rfl
   have b2':s.eF p1.1 p1.2 5=some (.agg (dh x.2).toArray):=b2
   obtain ⟨hr1,hr2⟩:=hB.KW x (xH hx)
   obtain ⟨s4,e4,c4,x4,n4⟩:=pX (n:=5) (st:=s) hlm (r:=dh (⟨0,[],[],[],[]⟩,.slice none 0 0,.slice none 0 0)) (row:=dh x.2) (v:=.agg (dh x.2).toArray) (lU _) rfl (by
    simp only [dh,List.all_cons,List.all_nil,L9 hr1,L9 hr2]
    rfl) rfl
   have e4':(s.new (.cells [.int .i64 0,.string ⟨#[]⟩,.string ⟨#[]⟩,.slice none 0 0,.slice none 0 0] 0)).eH s.next 0 5 (.agg (dh x.2).toArray)=some s4:=e4
   have he4:=he.trans x4
   have sW:=hB.then he4
   have l5:s4.eF s.next 0 5=some (.agg (dh x.2).toArray):=c4.eF rfl
   have IY:=hr2.ext hB.ext
   have on:Rd s4 v.n (strs (l.nms.map (·.1))) 1 (l.nms.map (·.1)).length:=by
    have:=(sW.ow.own 0 _ rfl).rd
    rw [zoz] at this
    rw [List.length_map]
    exact this
   obtain ⟨n6,u,Qp,hu,huo,c6⟩:=zxb l.nms hL.nms hnm x.2 (zsc hlo (by omega)) b _ v.n v.m s4 sW.row.1 sW.row.lt on (sW.ow.own 1 _ rfl).rd (IY.ext he4)
   have x6:Ext s4 (s4.dw n6):=(Ext.refl _).dw Qp
   have CV:=he4.trans x6
   obtain ⟨s10,e10,a10,x10,n10⟩:=pX (n:=12) (st:=s4.dw n6) (CV.ll hll) (r:=mP) (row:=wRow u) (v:=wV u) (lU _) (by rw [rX,hu]) (FW u) rfl
   have Cm:((s4.dw n6).new (.cells [.int .i64 0,.int .i64 0,.int .i64 0,.int .i64 0,.int .i64 0,.int .i64 0,.int .i64 0,.int .i64 0,.int .i64 0,.int .i64 0,.int .i64 0,.int .i64 0] 0)).eH n6 0 12 (wV u)=some s10:=e10
   have Ci:=CV.trans x10
   have sF:Ext s4 s10:=x6.trans x10
   have AO:=c4.ext sF
   have t0:∀ (a:Value) (z:Int),fM (.tuple #[a,.int .i64 z]) 0=some a:=fun _ _=>rfl
   have t1:∀ (a:Value) (z:Int),(fM (.tuple #[a,.int .i64 z]) 1).bind (ay .i64)=some z:=fun _ _=>rfl
   have hE:AV l.nms (sizeT l) (l.ni.drop j) ws=if (ng l.nms ny x.2.1.fC).2≠0 then .error (x.2.1.ln,(ng l.nms ny x.2.1.fC).2)
    else if D8 (sizeT l) (zK ((ng l.nms ny x.2.1.fC).1.getD 8 0) ((ng l.nms ny x.2.1.fC).1.getD 10 0) x.1)=true then .error (x.2.1.ln,((x.2.1.fC.head?).map (·.col)).getD 0)
    else AV l.nms (sizeT l) (l.ni.drop (j+1)) (ws.set x.1 (ng l.nms ny x.2.1.fC).1):=by rw [hd];rfl
   by_cases hc:(ng l.nms ny x.2.1.fC).2=0
   ·rw [if_neg (fun hh=>hh hc)] at hE
    have hcz:¬ (0:Int)<(((ng l.nms ny x.2.1.fC).2:Nat):Int):=by omega
    have hue:=huo hc
    have KX:=zp9 l.nms x.2.1.fC
    generalize hw:(ng l.nms ny x.2.1.fC).1=w at*
    subst hue
    have hnl:fG (ptr b 0)=some (ptr b 0):=rfl
    have xC:s10.eF n6 0 12=some (wV u):=a10.eF (by rw [rX,hu])
    have Nq:=hB.then Ci
    have l17:s10.ld b (0+3)=some v.p:=Nq.row.ld
    obtain ⟨p18,d1,_,d3⟩:=(Nq.ow.own 3 _ rfl).rd.load (j:=(j:Int)) (by omega) h (xw (f:=PL) (z:=1) (fun _=>rfl) its j x hx) rfl
    have IU:s10.ld p18.1 p18.2=some (.int .i64 x.1):=d3 0 (show 0<1 by omega)
    have hto:=zts KX
    obtain ⟨v20,s20,c20,x20,o20⟩:=zvs u (x.1:Int) (u.getD 8 0) (u.getD 10 0) (getD_some (by omega)) (getD_some (by omega)) (by omega) (by omega) s10 (Ci.ll hll)
    have Gt:=Ci.trans x20
    have hT:=znd (s:=u.getD 8 0) (a:=(x.1:Int)) (by omega) hto
    have hTl:(zK (u.getD 8 0) (u.getD 10 0) (x.1:Int)).length≤10:=by
     unfold zK
     repeat' split
     all_goals simp
    have HY:Ext s s20:=(x4.trans sF).trans x20
    obtain ⟨xQ,h22⟩:=zv4 (b':=ptr b 0) (w':=ptr n6 0) (t69:=v.l) (i':=j) (n:=its.length) (j:=j) Gt hll hbb hT hTl (x:=x.2) (N:=sizeT l) hN (a4.ext Gt) (AO.ext x20) h4 p0 ps hps IY o20.rd _ 0 s20 rfl (Ext.refl _)
    rw [List.drop_zero] at h22
    have hlen:(lenV v20).bind (ay .i64)=some ((zK (u.getD 8 0) (u.getD 10 0) (x.1:Int)).length:Int):=by rw [o20.len];rfl
    have b0:Nat.beq 0 0=true:=rfl
    have b1':Nat.beq 1 0=false:=rfl
    by_cases hr:D8 (sizeT l) (zK (u.getD 8 0) (u.getD 10 0) (x.1:Int))=true
    ·rw [if_pos hr] at hE h22
     rw [hE]
     obtain ⟨g1,g2,g3⟩:=h22
     have g1':vY 21 [ptr t4 0,ptr b 0,wv,.int .i64 j,ptr s.next 0,ptr n6 0,v.l,.int .i64 its.length,.int .i64 j,v20,.int .i64 (zK (u.getD 8 0) (u.getD 10 0) (x.1:Int)).length,.int .i64 0] s20=_:=g1
     refine ⟨xQ,Zn _ _ _ _ _ _ s ?_,g2,by rw [hps];exact g3⟩
     simp only [UZ,zdt h,cu,b1,b2',e4',l5,c6,t0,t1,bf,SS.lM,Cm,bg hcz,dn,xC,hnl,fZ,l17,d1,IU,eP,c20,hlen]
     rw [g1',bf]
     simp only [b1',dn,bf,lN,iZ]
    ·rw [if_neg hr] at hE h22
     rw [hE]
     obtain ⟨g1,g2⟩:=h22
     have g1':vY 21 [ptr t4 0,ptr b 0,wv,.int .i64 j,ptr s.next 0,ptr n6 0,v.l,.int .i64 its.length,.int .i64 j,v20,.int .i64 (zK (u.getD 8 0) (u.getD 10 0) (x.1:Int)).length,.int .i64 0] s20=_:=g1
     have Qv:=Gt.trans g2
     have xs22:=HY.trans g2
     have Np:=hB.then Qv
     have IQ:xQ.ld b (0+3)=some v.p:=Np.row.ld
     obtain ⟨p34,f1,_,f3⟩:=(Np.ow.own 3 _ rfl).rd.load (j:=(j:Int)) (by omega) h (xw (f:=PL) (z:=1) (fun _=>rfl) its j x hx) rfl
     have IL:xQ.ld p34.1 p34.2=some (.int .i64 x.1):=f3 0 (show 0<1 by omega)
     have l37:xQ.eF n6 0 12=some (wV u):=(a10.ext (x20.trans g2)).eF (by rw [rX,hu])
     obtain ⟨iw,BD,k1,k2,k3,k4,k5,k6,k7,k8⟩:=Own.put (f:=w12) X6 (ow.ext xs22) hws (by rw [Qv.lim];exact hll) Qi u (zyh u)
     have k5':xQ.eH iw (x.1*12) 12 (wV u)=some BD:=k5 _ (by rw [zv3 hu];exact lU _)
     have next:=ih (j+1) (ws.set x.1 u) BD (by omega) (by rw [List.length_set,hws]) (pO Qv k7 k2) k6
     have hw1:=ru (i:=j) (by omega)
     have step:∀ z,vY 15 [ptr t4 0,ptr b 0,wv,v.l,.int .i64 its.length,.int .i64 ((j+1:Nat):Int)] BD=some z→vY 15 [ptr t4 0,ptr b 0,wv,v.l,.int .i64 its.length,.int .i64 j] s=some z:=fun z hz=>by
      refine Zn _ _ _ _ _ _ s ?_
      simp only [UZ,zdt h,cu,b1,b2',e4',l5,c6,t0,t1,bf,SS.lM,Cm,bg hcz,dn,xC,hnl,fZ,l17,d1,IU,eP,c20,hlen]
      rw [g1',bf]
      simp only [b0,cu,bf,lN,iZ,eP,hnl,fZ,IQ,f1,IL,l37,k1,k5',hw1]
      exact hz
     cases hz:AV l.nms (sizeT l) (l.ni.drop (j+1)) (ws.set x.1 u) with
     | error e=>
       rw [hz] at next
       obtain ⟨s',d1,d2⟩:=next
       exact ⟨s',step _ d1,d2⟩
     | ok ws'=>
       rw [hz] at next
       obtain ⟨s',d1,d2⟩:=next
       exact ⟨s',step _ d1,d2⟩
   ·rw [if_pos hc] at hE
    rw [hE]
    have hcz:(0:Int)<(((ng l.nms ny x.2.1.fC).2:Nat):Int):=by omega
    have tZ:s10.ld s.next 0=some (.int .i64 x.2.1.ln):=AO.ld
    obtain ⟨s13,e13,G5,m13,n13⟩:=(a4.ext Ci).pU (k:=0) (vs:=[.int .i64 x.2.1.ln,.int .i64 (ng l.nms ny x.2.1.fC).2]) (row':=[.int .i64 x.2.1.ln,.int .i64 (ng l.nms ny x.2.1.fC).2]) rfl rfl
    refine ⟨s13,Zn _ _ _ _ _ _ s ?_,pO (hbb.trans Ci) m13 h4,G5⟩
    simp only [UZ,zdt h,cu,b1,b2',e4',l5,c6,t0,t1,bf,SS.lM,Cm,zdt hcz,tZ,eP,fZ,e13]
end Go.Proofs.YtifploedaacedaaGreatDoorE
namespace Go.Proofs.YtifploedaacedaaGreatDoorE
open Go Go.E Go.Proofs
def NG (base0 base:SS) (t4:Nat) (wv:Value) (es:List (List UInt8×Int)) (res:Option (Nat×List Value×SS)):Except (Nat×Nat) (List (List UInt8×Int))→Prop
 | .error e=>∃ s',res=some (1,[.slice none 0 0,.slice none 0 0,ptr t4 0],s')∧Ext base0 s'∧At s' t4 [.int .i64 e.1,.int .i64 e.2]
 | .ok es'=>∃ s' ev',res=some (0,[ptr t4 0,wv,ev'],s')∧Ext base s'∧Own base.next s' ev' (ak oU (es++es')) 2 (es++es').length
theorem zv6 [Sym] {base0 st0 base:SS} {B b t4 N:Nat} {v:V6} {wv:Value} {l:Lay} {its:List mV} (hB:zW st0 base B b v l its) (hn:l.ents.length≤100000) (hnm:l.nms.length≤1000000) (hbb:Ext base0 base) (h4:base0.next≤t4) (a4:At base t4 Z2)
  (hN:(lenV wv).bind (ay .i64)=some (N:Int)):∀ (k j:Nat) (es:List (List UInt8×Int)) (ev:Value) (s:SS),l.ents.length=k+j→es.length≤j→Ext base s→Own base.next s ev (ak oU es) 2 es.length→
  NG base0 base t4 wv es (vY 30 [ptr t4 0,ptr b 0,wv,ev,v.e,.int .i64 l.ents.length,.int .i64 j] s) (Bj l.nms N (l.ents.drop j)):=by
 have hll:base.lim≤base.next:=hB.SK
 intro k
 induction k with
 | zero=>
   intro j es ev s hk hes he ow
   have h:¬ (j:Int)<(l.ents.length:Int):=by omega
   rw [List.drop_of_length_le (by omega)]
   refine ⟨s,ev,UW _ _ _ _ _ _ _ s ?_,he,by rw [List.append_nil];exact ow⟩
   simp only [Sj,bg h,dn]
 | succ k ih=>
   intro j es ev s hk hes he ow
   have h:(j:Int)<(l.ents.length:Int):=by omega
   obtain ⟨e,hx⟩:∃ e,l.ents[j]?=some e:=⟨_,mW (by omega)⟩
   have hd:=drop_cons hx
   have hE:Bj l.nms N (l.ents.drop j)=match xu l.nms e.1.nm with
    | none=>.error e.2
    | some x=>if x<0∨(N:Int)≤x then .error e.2 else match Bj l.nms N (l.ents.drop (j+1)) with
      | .error z=>.error z
      | .ok es=>.ok ((e.1.nm,x)::es):=by rw [hd];rfl
   have hsb:=hB.then he
   have hlm:s.lim≤s.next:=he.ll hll
   obtain ⟨p1,b1,b2,_⟩:=(hsb.ow.own 4 _ rfl).rd.load (j:=(j:Int)) (by omega) h (xw (f:=OV) (z:=3) (fun _=>rfl) l.ents j e hx) rfl
   have b2':s.eF p1.1 p1.2 3=some (.agg (au e.1).toArray):=b2
   obtain ⟨s4,e4,c4,x4,n4⟩:=pX (n:=3) (st:=s) hlm (r:=au ⟨[],0,0⟩) (row:=au e.1) (v:=.agg (au e.1).toArray) (lU _) rfl rfl rfl
   have e4':(s.new (.cells [.string ⟨#[]⟩,.int .i64 0,.int .i64 0] 0)).eH s.next 0 3 (.agg (au e.1).toArray)=some s4:=e4
   have he4:=he.trans x4
   have sW:=hB.then he4
   have hnl:fG (ptr b 0)=some (ptr b 0):=rfl
   have l7:s4.ld b 0=some v.n:=sW.row.ld
   have l8:s4.ld s.next 0=some (.string (mkS e.1.nm)):=c4.ld
   have on:Rd s4 v.n (strs (l.nms.map (·.1))) 1 (l.nms.map (·.1)).length:=by
    have:=(sW.ow.own 0 _ rfl).rd
    rw [zoz] at this
    rw [List.length_map]
    exact this
   obtain ⟨n9,hn9,c9⟩:=Xt (l.nms.map (·.1)) (by simp;omega) (mkS e.1.nm) v.n s4 on
   rw [vW] at c9
   have x9:Ext s4 (s4.dw n9):=(Ext.refl _).dw hn9
   have Lj:=he4.trans x9
   have KZ:=hB.then Lj
   have A8:(s4.dw n9).ld b (0+5)=some v.a:=KZ.row.ld
   have Qe:(s4.dw n9).ld b (0+1)=some v.m:=KZ.row.ld
   obtain ⟨Na,d1,d2,_⟩:=(KZ.ow.own 5 _ rfl).rd.load (j:=(j:Int)) (by omega) h (xw (f:=nP) (z:=2) (fun _=>rfl) l.ents j e hx) rfl
   have d2':(s4.dw n9).eF Na.1 Na.2 2=some (.agg (nP e).toArray):=d2
   obtain ⟨oZ,e17,a17,m17,n17⟩:=(a4.ext Lj).eH (k:=0) (n:=2) (v:=.agg (nP e).toArray) (lU _) rfl rfl (row':=nP e) rfl
   have hbad:∀ z,z=some (1,[.slice none 0 0,.slice none 0 0,ptr t4 0],oZ)→NG base0 base t4 wv es z (.error e.2):=fun z hz=>⟨oZ,hz,pO (hbb.trans Lj) m17 h4,a17⟩
   have hfi:=X7 l.nms e.1.nm
   rw [hE]
   cases hf:xu l.nms e.1.nm with
   | none=>
     rw [hf] at hfi
     simp only at hfi
     have h10:inT (l.nms.map (·.1)) e.1.nm<0:=by omega
     refine hbad _ (UW _ _ _ _ _ _ _ s ?_)
     simp only [Sj,zdt h,cu,b1,b2',e4',hnl,fZ,l7,l8,c9,bf,fP,eP,zdt h10,A8,d1,d2',e17]
   | some y=>
     rw [hf] at hfi
     obtain ⟨kk,h1,yn,h2⟩:=hfi
     have h10:¬ (kk:Int)<0:=by omega
     have hkl:kk<l.nms.length:=(List.getElem?_eq_some_iff.1 h2).1
     rw [h1] at c9
     obtain ⟨p21,g1,_,g3⟩:=(KZ.ow.own 1 _ rfl).rd.load (j:=(kk:Int)) (by omega) (show (kk:Int)<(l.nms.length:Int) by omega) (xw (f:=Nb) (z:=1) (fun _=>rfl) l.nms kk (yn,y) h2) rfl
     have Qd:(s4.dw n9).ld p21.1 p21.2=some (.int .i64 y):=g3 0 (show 0<1 by omega)
     by_cases hy:y<0
     ·simp only [if_pos (show y<0∨(N:Int)≤y from .inl hy)]
      refine hbad _ (UW _ _ _ _ _ _ _ s ?_)
      simp only [Sj,zdt h,cu,b1,b2',e4',hnl,fZ,l7,l8,c9,bf,fP,eP,bg h10,dn,Qe,g1,Qd,zdt hy,A8,d1,d2',e17]
     ·by_cases Qh:(N:Int)≤y
      ·simp only [if_pos (show y<0∨(N:Int)≤y from .inr Qh)]
       refine hbad _ (UW _ _ _ _ _ _ _ s ?_)
       simp only [Sj,zdt h,cu,b1,b2',e4',hnl,fZ,l7,l8,c9,bf,fP,eP,bg h10,dn,Qe,g1,Qd,bg hy,hN,zdt Qh,A8,d1,d2',e17]
      ·simp only [if_neg (show ¬ (y<0∨(N:Int)≤y) by omega)]
       have SL:(s4.dw n9).ld s.next 0=some (.string (mkS e.1.nm)):=(c4.ext x9).ld
       have xs9:=x4.trans x9
       obtain ⟨q,Pm,f1,f2,f3,f4,f5,f6⟩:=(ow.ext xs9).IG (row:=oU (e.1.nm,y)) (bt:=24) Lj.next (by rw [Lj.lim];exact hll) rfl (by omega) rfl (by omega) (by omega)
       have f1':((s4.dw n9).new (.cells [.string (mkS e.1.nm),.int .i64 y] 2)).app 2 24 ev (.slice (some ⟨n9,0,none⟩) 1 1)=some (.slice (some ⟨q,0,none⟩) (es.length+1) (es.length+1),Pm):=f1
       have he50:Ext base Pm:=⟨lT Lj.next f5,f4.trans Lj.lim,fun m hm=>(f6 m (pz hm Lj.next) fun q' hq'=>(by
        obtain ⟨_,⟨ev0,_⟩ | ⟨i',ev0,_,_,hbi,hi'⟩⟩:=ow
        ·rw [ev0] at hq';cases hq'
        ·rw [ev0] at hq';cases hq';omega)).trans (Lj.keep m hm)⟩
       have hw1:=ru (i:=j) (by omega)
       have ow50:Own base.next Pm (.slice (some ⟨q,0,none⟩) (es.length+1) (es.length+1)) (ak oU (es++[(e.1.nm,y)])) 2 (es++[(e.1.nm,y)]).length:=by
        rw [FX,FV,List.length_append]
        exact f3
       have next:=ih (j+1) (es++[(e.1.nm,y)]) _ Pm (by omega) (by simp;omega) he50 ow50
       have step:∀ z,vY 30 [ptr t4 0,ptr b 0,wv,.slice (some ⟨q,0,none⟩) (es.length+1) (es.length+1),v.e,.int .i64 l.ents.length,.int .i64 ((j+1:Nat):Int)] Pm=some z→vY 30 [ptr t4 0,ptr b 0,wv,ev,v.e,.int .i64 l.ents.length,.int .i64 j] s=some z:=fun z hz=>by
        refine UW _ _ _ _ _ _ _ s ?_
        simp only [Sj,zdt h,cu,b1,b2',e4',hnl,fZ,l7,l8,c9,bf,fP,eP,bg h10,dn,Qe,g1,Qd,bg hy,hN,bg Qh,SL,List.append_nil,SS.lM,f1',hw1]
        exact hz
       cases hz:Bj l.nms N (l.ents.drop (j+1)) with
       | error z=>
         rw [hz] at next
         obtain ⟨s',k1,k2⟩:=next
         exact ⟨s',step _ k1,k2⟩
       | ok es'=>
         rw [hz] at next
         obtain ⟨s',ev',k1,k2,k3⟩:=next
         refine ⟨s',ev',step _ k1,k2,?_⟩
         rw [List.append_assoc] at k3
         exact k3
def ZV (st:SS) (res:Option (Value×SS)):Except (Nat×Nat) (List Wd×List (List UInt8×Int))→Prop
 | .error e=>∃ s',res=some (.tuple #[.slice none 0 0,.slice none 0 0,rH e],s')∧Ext st s'∧0<e.1
 | .ok (ws,es)=>∃ s' wv ev,res=some (.tuple #[wv,ev,rH (0,0)],s')∧Ext st s'∧Own st.next s' wv (ak w12 ws) 12 ws.length∧Own st.next s' ev (ak oU es) 2 es.length
theorem zsf:∀ (xs:List fU) (l:Lay) (e:Nat×Nat),(∀ x∈xs,0<x.ln)→AP l xs=.error e→0<e.1
 | [],l,e,_,h=>by cases h
 | x::r,l,e,hx,h=>by
   unfold AP at h
   split at h
   ·cases h;exact hx x (by simp)
   ·exact zsf r _ e (fun y hy=>hx y (by simp [hy])) h
theorem zsg:∀ (xs:List fU) (l l':Lay),AP l xs=.ok l'→l'.nms.length≤l.nms.length+2*xs.length
 | [],l,l',h=>by cases h;simp
 | x::r,l,l',h=>by
   unfold AP at h
   split at h
   ·cases h
   ·rename_i l1 hl1
    have h1:=zqP hl1
    have h2:=zsg r l1 l' h
    simp only [List.length_cons]
    omega
noncomputable def Td [Sym] (t4 wv l':Value) (a:Value) (n b:Int) (s:SS):Option (Value×SS):=
  (vY 15 [t4,l',wv,a,.int .i64 n,.int .i64 0] s).bind fun c=>
  cond (Nat.beq c.1 0) (
   (c.2.1[0]?).bind fun d=>
   (c.2.1[1]?).bind fun e=>
   (c.2.1[2]?).bind fun f=>
   (fG e).bind fun g=>
   (aj g).bind fun h=>
   (c.2.2.ld h.1 (h.2+4)).bind fun i=>
   ((lenV i).bind (ay .i64)).bind fun j=>
   (vY 30 [d,e,f,.slice none 0 0,i,.int .i64 j,.int .i64 0] c.2.2).bind fun k=>
   cond (Nat.beq k.1 0) (
    (k.2.1[0]?).bind fun l=>
    (k.2.1[1]?).bind fun m=>
    (k.2.1[2]?).bind fun o=>
    (aj l).bind fun p=>
    (k.2.2.st p.1 p.2 [.int .i64 0,.int .i64 0]).bind fun q=>
    (aj l).bind fun r=>
    (q.fH r.1 r.2 2).bind fun t=>
    some (.tuple #[m,o,t],q)) (
    (k.2.1[0]?).bind fun u=>
    (k.2.1[1]?).bind fun v=>
    (k.2.1[2]?).bind fun w=>
    (aj w).bind fun x=>
    (k.2.2.fH x.1 x.2 2).bind fun y=>
    some (.tuple #[u,v,y],k.2.2))) (
   (c.2.1[0]?).bind fun z=>
   (c.2.1[1]?).bind fun A=>
   (c.2.1[2]?).bind fun B=>
   (aj B).bind fun C=>
   (c.2.2.fH C.1 C.2 2).bind fun D=>
   some (.tuple #[z,A,D],c.2.2))
theorem zxd [Sym] {base0 st0 base s:SS} {B b M t4:Nat} {v:V6} {wv:Value} {l:Lay} {its:List mV} (hB:zW st0 base B b v l its) (hL:nH M l) (hM:M≤100000) (hn:l.ents.length≤100000) (hnm:l.nms.length≤1000000) (hbb:Ext base0 base) (h4:base0.next≤t4) (h4b:t4<base.next) (a4:At base t4 Z2)
  (he:Ext base s) (ow:Own base.next s wv (ak w12 (List.replicate (sizeT l) ny)) 12 (sizeT l)):ZV base0 (Td (ptr t4 0) wv (ptr b 0) v.l its.length 0 s) (DL l):=by
 have hN:(lenV wv).bind (ay .i64)=some ((sizeT l:Nat):Int):=by rw [ow.len];rfl
 have hw:=zv5 hB hL hM hnm hbb h4 a4 hN its.length 0 (List.replicate (sizeT l) ny) s rfl (by simp) he ow
 rw [List.drop_zero] at hw
 have b0:Nat.beq 0 0=true:=rfl
 have b1:Nat.beq 1 0=false:=rfl
 unfold DL
 cases hws:AV l.nms (sizeT l) l.ni (List.replicate (sizeT l) ny) with
 | error e=>
   rw [hws] at hw
   obtain ⟨s',c1,c2,c3⟩:=hw
   have c1':vY 15 [ptr t4 0,ptr b 0,wv,v.l,.int .i64 its.length,.int .i64 0] s=_:=c1
   have r1:=c3.fH (n:=2) rfl
   refine ⟨s',?_,c2,zl9 _ _ _ hL.fC hws⟩
   unfold Td
   rw [c1',bf]
   simp only [b1,dn,lN,iZ,bf,fZ,r1]
   rfl
 | ok ws=>
   rw [hws] at hw
   obtain ⟨s',c1,c2,c3,c4⟩:=hw
   have c1':vY 15 [ptr t4 0,ptr b 0,wv,v.l,.int .i64 its.length,.int .i64 0] s=_:=c1
   have hsb:=hB.then c2
   have hnl:fG (ptr b 0)=some (ptr b 0):=rfl
   have SL:s'.ld b (0+4)=some v.e:=hsb.row.ld
   have hlen:(lenV v.e).bind (ay .i64)=some (l.ents.length:Int):=by rw [(hB.ow.own 4 _ rfl).len];rfl
   have hen:=zv6 (base0:=base0) (N:=sizeT l) hsb hn hnm (hbb.trans c2) h4 (a4.ext c2) hN l.ents.length 0 [] _ s' rfl (by simp) (Ext.refl _) (Own.nil _ _ _)
   rw [List.drop_zero] at hen
   cases hes:Bj l.nms (sizeT l) l.ents with
   | error e=>
     rw [hes] at hen
     obtain ⟨s2,d1,d2,d3⟩:=hen
     have d1':vY 30 [ptr t4 0,ptr b 0,wv,.slice none 0 0,v.e,.int .i64 l.ents.length,.int .i64 0] s'=_:=d1
     have r1:=d3.fH (n:=2) rfl
     refine ⟨s2,?_,d2,zne _ _ hL.ent hes⟩
     unfold Td
     rw [c1',bf]
     simp only [b0,cu,lN,iZ,bf,hnl,fZ,SL,hlen]
     rw [d1',bf]
     simp only [b1,dn,lN,iZ,bf,fZ,r1]
     rfl
   | ok es=>
     rw [hes] at hen
     obtain ⟨s2,ev,d1,d2,d3⟩:=hen
     have d1':vY 30 [ptr t4 0,ptr b 0,wv,.slice none 0 0,v.e,.int .i64 l.ents.length,.int .i64 0] s'=_:=d1
     simp only [List.nil_append] at d3
     have a42:=(a4.ext c2).ext d2
     obtain ⟨Pm,e50,a50,m50,n50⟩:=a42.pU (k:=0) (vs:=Z2) (row':=Z2) rfl rfl
     have r1:=a50.fH (n:=2) rfl
     have Nr:=RU _ _ _ hws
     rw [List.length_replicate] at Nr
     have q1:∀ m,m∈[t4]→m<base.next:=by intro m hm;have e:m=t4:=(by simpa using hm);omega
     refine ⟨Pm,wv,ev,?_,pO ((hbb.trans c2).trans d2) m50 h4,?_,(d3.lq m50 fun m hm=>pz (q1 m hm) c2.next).low (lT hbb.next c2.next)⟩
     ·unfold Td
      rw [c1',bf]
      simp only [b0,cu,lN,iZ,bf,hnl,fZ,SL,hlen]
      rw [d1',bf]
      simp only [b0,cu,lN,iZ,bf,fZ,e50,r1]
      rfl
     ·rw [Nr]
      exact ((c3.ext d2).lq m50 q1).low hbb.next
theorem zyj [Sym] {st:SS} (hl:st.lim≤st.next) (s:ByteArray) (hs:s.size≤65536):ZV st (cc 17 [.string s] st) (EM (bl s)):=by
 have x1:Ext st (st.new (.cells Z2 0)):=(Ext.refl _).new _
 have a4:At (st.new (.cells Z2 0)) st.next Z2:=At.new hl Z2
 have hn1:(st.new (.cells Z2 0)).next=st.next+1:=rfl
 generalize hs1:st.new (.cells Z2 0)=s1 at*
 have hp:=zvL (x1.ll hl) s hs
 have t0:∀ (a b:Value),fM (.tuple #[a,b]) 0=some a:=fun _ _=>rfl
 have t1:∀ (a b:Value),fM (.tuple #[a,b]) 1=some b:=fun _ _=>rfl
 unfold EM
 cases hpt:Ec (bl s) with
 | error e=>
   rw [hpt] at hp
   obtain ⟨s2,c2,x2⟩:=hp
   have hpos:=zv2 hpt
   obtain ⟨s6,e6,a6,x6,n6⟩:=pX (n:=2) (st:=s2) ((x1.trans x2).ll hl) (r:=Z2) (row:=[.int .i64 e.1,.int .i64 e.2]) (v:=rH e) rfl rfl rfl rfl
   have WM:(s2.new (.cells [.int .i64 0,.int .i64 0] 0)).eH s2.next 0 2 (rH e)=some s6:=e6
   have c7:sQ (ptr s2.next 0) 2 0 1=some (s2.next,0):=rfl
   have l8:s6.ld s2.next 0=some (.int .i64 e.1):=a6.ld
   have h8:(0:Int)<(e.1:Int):=by omega
   have l9:s6.eF s2.next 0 2=some (rH e):=a6.eF rfl
   obtain ⟨s10,e10,a10,m10,n10⟩:=((a4.ext x2).ext x6).eH (k:=0) (n:=2) (v:=rH e) (vs:=[.int .i64 e.1,.int .i64 e.2]) rfl rfl rfl (row':=[.int .i64 e.1,.int .i64 e.2]) rfl
   have r1:=a10.fH (n:=2) rfl
   refine ⟨s10,Za _ st ?_,pO ((x1.trans x2).trans x6) m10 (fF _),hpos⟩
   simp only [UH,hs1,c2,t0,t1,bf,WM,c7,l8,eP,zdt h8,cu,l9,e10,r1]
   rfl
 | ok xs=>
   rw [hpt] at hp
   obtain ⟨v,s2,c2,x2,items,hxs,hv,hrd⟩:=hp
   obtain ⟨hok,hlen⟩:=XO hpt
   rw [tC] at hok hlen
   obtain ⟨s6,e6,a6,x6,n6⟩:=pX (n:=2) (st:=s2) ((x1.trans x2).ll hl) (r:=Z2) (row:=Z2) (v:=rH (0,0)) rfl rfl rfl rfl
   have WM:(s2.new (.cells [.int .i64 0,.int .i64 0] 0)).eH s2.next 0 2 (rH (0,0))=some s6:=e6
   have c7:sQ (ptr s2.next 0) 2 0 1=some (s2.next,0):=rfl
   have l8:s6.ld s2.next 0=some (.int .i64 0):=a6.ld
   have h8:¬ (0:Int)<0:=by omega
   have x06:=(x1.trans x2).trans x6
   have hl6:=x06.ll hl
   have hlen':(lenV v).bind (ay .i64)=some (items.length:Int):=by rw [hv.len];rfl
   have hil:items.length=xs.length:=by rw [← hxs,List.length_map]
   have hB0:zW s6 (s6.new (.cells (xW ⟨.slice none 0 0,.slice none 0 0,.slice none 0 0,.slice none 0 0,.slice none 0 0,.slice none 0 0⟩ 0) 0)) (s6.next+1) s6.next ⟨.slice none 0 0,.slice none 0 0,.slice none 0 0,.slice none 0 0,.slice none 0 0,.slice none 0 0⟩ zY []:=
    { ext:=(Ext.refl s6).new _,ll:=hl6,row:=At.new hl6 _,b0:=fF _,bB:=by omega,BN:=by simp,ow:=⟨fun k o ho=>(by
      match k,ho with
      | 0,ho=>cases ho;exact Own.nil _ _ _
      | 1,ho=>cases ho;exact Own.nil _ _ _
      | 2,ho=>cases ho;exact Own.nil _ _ _
      | 3,ho=>cases ho;exact Own.nil _ _ _
      | 4,ho=>cases ho;exact Own.nil _ _ _
      | 5,ho=>cases ho;exact Own.nil _ _ _
      | k+6,ho=>simp [LO] at ho),fun k m a b j ha hb h1 h2=>(by
      match k,ha with
      | 0,ha=>cases ha;cases h1
      | 1,ha=>cases ha;cases h1
      | 2,ha=>cases ha;cases h1
      | 3,ha=>cases ha;cases h1
      | 4,ha=>cases ha;cases h1
      | 5,ha=>cases ha;cases h1
      | k+6,ha=>simp [LO] at ha)⟩,ni:=rfl,KW:=fun x hx=>(by cases hx) }
   have hb2:st.next+1≤s6.next:=by have:=x2.next;have:=x6.next;omega
   have hloop:=zxc (base:=st) (st0:=s6) (B:=s6.next+1) (b:=s6.next) (M:=s.size+1) (by omega) items (by omega) (fun x hx=>hok x.1 (by rw [← hxs];exact List.mem_map_of_mem hx)) v (hv.ext x6) (fun x hx=>⟨(hrd x hx).1.ext x6,(hrd x hx).2.ext x6⟩) x06 hb2 ((a4.ext x2).ext x6)
    items.length 0 zY _ [] _ rfl hB0 (Rt _) (by simp [zY]) (by simp [zY])
   rw [List.drop_zero,hxs] at hloop
   have b0:Nat.beq 0 0=true:=rfl
   have b1:Nat.beq 1 0=false:=rfl
   simp only
   cases Ld:AP zY xs with
   | error e=>
     rw [Ld] at hloop
     obtain ⟨oZ,d1,d2,d3⟩:=hloop
     have d1':vY 6 [ptr st.next 0,ptr s6.next 0,v,.int .i64 items.length,.int .i64 0] (s6.new (.cells [.slice none 0 0,.slice none 0 0,.slice none 0 0,.slice none 0 0,.slice none 0 0,.slice none 0 0,.int .i64 0] 0))=_:=d1
     have r1:=d3.fH (n:=2) rfl
     refine ⟨oZ,Za _ st ?_,d2,zsf xs zY e (fun x hx=>(hok x hx).2) Ld⟩
     simp only [UH,hs1,c2,t0,t1,bf,WM,c7,l8,eP,bg h8,dn,hlen']
     rw [d1',bf]
     simp only [b1,dn,lN,iZ,bf,fZ,r1]
     rfl
   | ok l=>
     rw [Ld] at hloop
     obtain ⟨oZ,v17,its,d1,hB⟩:=hloop
     have d1':vY 6 [ptr st.next 0,ptr s6.next 0,v,.int .i64 items.length,.int .i64 0] (s6.new (.cells [.slice none 0 0,.slice none 0 0,.slice none 0 0,.slice none 0 0,.slice none 0 0,.slice none 0 0,.int .i64 0] 0))=_:=d1
     obtain ⟨hL,hen⟩:=XM xs zY l (Rt (s.size+1)) hok Ld
     have hnm:=zsg xs zY l Ld
     simp only [zY,List.length_nil,Nat.zero_add] at hen hnm
     have Ej:=x06.trans hB.ext
     have WZ:=((a4.ext x2).ext x6).ext hB.ext
     have hil2:its.length=l.ni.length:=by rw [← hB.ni,List.length_map]
     have hil3:its.length≤2048:=by
      have h1:=hL.FZ
      have h2:=hL.pl
      omega
     have hnl:fG (ptr s6.next 0)=some (ptr s6.next 0):=rfl
     have IU:oZ.ld s6.next (0+3)=some v17.p:=hB.row.ld
     have hlp:(lenV v17.p).bind (ay .i64)=some (its.length:Int):=by rw [(hB.ow.own 3 _ rfl).len];rfl
     have Ws:(lenV v17.l).bind (ay .i64)=some (its.length:Int):=by rw [(hB.ow.own 2 _ rfl).len];rfl
     have hlt4:st.next<oZ.next:=WZ.lt
     have fin:∀ (z:Option (Value×SS)) (wv:Value) (s':SS),Ext oZ s'→Own oZ.next s' wv (ak w12 (List.replicate (sizeT l) ny)) 12 (sizeT l)→(∀ y,Td (ptr st.next 0) wv (ptr s6.next 0) v17.l its.length 0 s'=some y→cc 17 [.string s] st=some y)→
       ZV st (cc 17 [.string s] st) (DL l):=by
      intro z wv s' he ow hgo
      have hk:=zxd (base0:=st) (t4:=st.next) hB hL (by omega) (by omega) (by omega) Ej (fF _) hlt4 WZ he ow
      cases hro:DL l with
      | error e=>
        rw [hro] at hk
        obtain ⟨s2,k1,k2⟩:=hk
        exact ⟨s2,hgo _ k1,k2⟩
      | ok y=>
        obtain ⟨ws,es⟩:=y
        rw [hro] at hk
        obtain ⟨s2,w,e,k1,k2⟩:=hk
        exact ⟨s2,w,e,hgo _ k1,k2⟩
     simp only
     by_cases hw0:0<its.length
     ·have hp:(0:Int)<(its.length:Int):=by omega
      obtain ⟨x,hx⟩:∃ x,its[its.length-1]?=some x:=⟨_,mW (by omega)⟩
      have hwx:l.ni.getLast?=some (x.1,x.2.1):=by
       rw [List.getLast?_eq_getElem?,← hB.ni,List.length_map,List.getElem?_map,hx];rfl
      have hsz:sizeT l=x.1+1:=by unfold sizeT;rw [hwx]
      have hszb:=(TT hL).2
      have n28:IntKind.wrap .i64 ((its.length:Int)-1)=((its.length-1:Nat):Int):=by rw [wrap64 (by omega) (by omega)];omega
      obtain ⟨p29,q1,_,q3⟩:=(hB.ow.own 3 _ rfl).rd.load (j:=((its.length-1:Nat):Int)) (by omega) (show ((its.length-1:Nat):Int)<(its.length:Int) by omega) (xw (f:=PL) (z:=1) (fun _=>rfl) its (its.length-1) x hx) rfl
      have l30:oZ.ld p29.1 p29.2=some (.int .i64 x.1):=q3 0 (show 0<1 by omega)
      have n31:IntKind.wrap .i64 ((x.1:Int)+1)=((sizeT l:Nat):Int):=by rw [wrap64 (by omega) (by omega),hsz];omega
      have hmk:EO ((sizeT l:Nat):Int) ((sizeT l:Nat):Int) 96=some ():=Yj (by omega) (by omega) (by omega)
      have x32:Ext oZ (oZ.new (.cells (ak w12 (List.replicate (sizeT l) ny)) 12)):=(Ext.refl _).new _
      have IL:(oZ.new (.cells (ak w12 (List.replicate (sizeT l) ny)) 12)).ld s6.next (0+2)=some v17.l:=(hB.then x32).row.ld
      have ow32:Own oZ.next (oZ.new (.cells (ak w12 (List.replicate (sizeT l) ny)) 12)) (.slice (some ⟨oZ.next,0,none⟩) (sizeT l) (sizeT l)) (ak w12 (List.replicate (sizeT l) ny)) 12 (sizeT l):=
       ⟨by rw [RF X6];simp,.inr ⟨oZ.next,rfl,by omega,SS.fV,fF _,by simp⟩⟩
      refine fin none _ _ x32 ow32 fun y hy=>Za _ st ?_
      simp only [UH,hs1,c2,t0,t1,bf,WM,c7,l8,eP,bg h8,dn,hlen']
      rw [d1',bf]
      simp only [b0,cu,lN,iZ,bf,hnl,fZ,IU,hlp,zdt hp,n28,q1,l30,eP,n31,hmk,zyi,IL,Ws,Int.toNat_natCast]
      exact hy
     ·have hp:¬ (0:Int)<(its.length:Int):=by omega
      have hwn:l.ni=[]:=List.length_eq_zero_iff.1 (by omega)
      have hsz:sizeT l=0:=by unfold sizeT;rw [hwn];rfl
      have IL:oZ.ld s6.next (0+2)=some v17.l:=hB.row.ld
      refine fin none (.slice none 0 0) oZ (Ext.refl _) (by rw [hsz];exact Own.nil _ _ _) fun y hy=>Za _ st ?_
      simp only [UH,hs1,c2,t0,t1,bf,WM,c7,l8,eP,bg h8,dn,hlen']
      rw [d1',bf]
      simp only [b0,cu,lN,iZ,bf,hnl,fZ,IU,hlp,bg hp,dn,IL,Ws]
      exact hy
end Go.Proofs.YtifploedaacedaaGreatDoorE
namespace Go.Proofs.YtifploedaacedaaGreatDoorE
open Go Go.E Go.Proofs
def L8 (k:Nat):Nat:=(Bo.drop k).sum
theorem zpy {k:Nat} (h:k<12):L8 k=oh k+L8 (k+1)∧L8 k≤64:=by
 have:∀ k,k<12→L8 k=oh k+L8 (k+1)∧L8 k≤64:=by decide+kernel
 exact this k h
theorem zqQ {w:Wd} (hw:w.length=12):FK (Bo.drop 12) (w.drop 12)=0:=by
 rw [List.drop_of_length_le (l:=w) (by omega)]
 rfl
theorem zpz {w:Wd} (hw:w.length=12) {k:Nat} (h:k<12):FK (Bo.drop k) (w.drop k)=w.getD k 0+2^oh k*FK (Bo.drop (k+1)) (w.drop (k+1)):=by
 rw [zpn h,getD_drop (by omega)];rfl
theorem ZU {w:Wd} (hw:w.length=12) (hg:CP w=true):∀ (m k:Nat),12=m+k→∃ X:Nat,FK (Bo.drop k) (w.drop k)=X∧X<2^L8 k
 | 0,k,h=>by
   have:k=12:=by omega
   subst this
   exact ⟨0,zqQ hw,Nat.two_pow_pos _⟩
 | m+1,k,h=>by
   obtain ⟨X,h1,h2⟩:=ZU hw hg m (k+1) (by omega)
   obtain ⟨p,hp,hlt⟩:=zot hg (k:=k) (by omega)
   have ht:=(zpy (k:=k) (by omega)).1
   refine ⟨p+2^oh k*X,by rw [zpz hw (by omega),h1,hp];push_cast;rfl,?_⟩
   rw [ht,Nat.pow_add]
   have h3:2^oh k*(X+1)≤2^oh k*2^L8 (k+1):=Nat.mul_le_mul_left _ h2
   rw [Nat.mul_add,Nat.mul_one] at h3
   omega
theorem zpA [Sym] (w:Wd) (hw:w.length=12) (hg:CP w=true) (j:Nat) (base:SS) (hj:base.mem.get j=some (.cells (wRow w) 1)) (hlt:j<base.next):∀ (m:Nat),m≤12→∀ (s:SS),Ext base s→
  ∃ s',Ext s s'∧UG 4 [.int .u64 (FK (Bo.drop m) (w.drop m)),.slice (some ⟨j,0,none⟩) 12 12,.int .i64 ((m:Int)-1)] s=some (0,[.int .u64 (Gu w)],s')
 | 0,_,s,he=>by
   have h:¬ (0:Int)≤((0:Nat):Int)-1:=by omega
   refine ⟨s,Ext.refl _,zfB _ _ _ s ?_⟩
   simp only [zew,bg h,dn]
   rfl
 | m+1,hm,s,he=>by
   have e1:(((m+1:Nat):Int)-1)=(m:Int):=by omega
   rw [e1]
   have h:(0:Int)≤(m:Int):=by omega
   have c1:=ztk (s.ro s.next)
   have x1:Ext s (((s.ro s.next).new (.cells (wRow Ed) 1)).ro s.lim):=⟨by simp,rfl,fun i hi=>by show ((s.ro s.next).new _).mem.get i=_;rw [SS.nM (by simp;omega)];rfl⟩
   have m1:(((s.ro s.next).new (.cells (wRow Ed) 1)).ro s.lim).mem.get s.next=some (.cells (wRow Ed) 1):=SS.fV (st:=s.ro s.next)
   have Wn:m<12:=by omega
   have el:∀ i:Nat,fK (.slice (some ⟨i,0,none⟩) 12 12) (m:Int) 1=some (i,0+m*1):=fun i=>BH Wn
   have l3:(((s.ro s.next).new (.cells (wRow Ed) 1)).ro s.lim).ld s.next (0+m*1)=some (.int .i64 ((2^oh m:Nat):Int)):=by
    rw [SS.eU m1,Nat.zero_add,Nat.mul_one]
    exact zr1 (by omega)
   have m2:(((s.ro s.next).new (.cells (wRow Ed) 1)).ro s.lim).mem.get j=some (.cells (wRow w) 1):=(he.trans x1).get hlt hj
   obtain ⟨p,hp,hpl⟩:=zot hg (k:=m) (by omega)
   have l7:(((s.ro s.next).new (.cells (wRow Ed) 1)).ro s.lim).ld j (0+m*1)=some (.int .i64 (p:Int)):=by
    rw [SS.eU m2,Nat.zero_add,Nat.mul_one,Ol,getD_some (by omega),hp];rfl
   obtain ⟨X,hX,hXl⟩:=ZU hw hg (12-(m+1)) (m+1) (by omega)
   obtain ⟨Y,hY,hYl⟩:=ZU hw hg (12-m) m (by omega)
   have ht:=zpy (k:=m) (by omega)
   have hpow:2^oh m≤2^11:=Nat.pow_le_pow_right (by omega) (Yt m)
   have hYb:Y<2^64:=pz hYl (Nat.pow_le_pow_right (by omega) ht.2)
   have hstep:=zpz hw (k:=m) (by omega)
   rw [hX,hY,hp] at hstep
   have hYe:Y=p+2^oh m*X:=by
    have h2:((p+2^oh m*X:Nat):Int)=(Y:Int):=by rw [hstep];push_cast;rfl
    omega
   have hXY:X*2^oh m≤Y:=by rw [Nat.mul_comm];omega
   have w4:IntKind.wrap .u64 ((2^oh m:Nat):Int)=((2^oh m:Nat):Int):=Ho (by omega) (by omega)
   have w5:IntKind.wrap .u64 ((X:Int)*((2^oh m:Nat):Int))=((X*2^oh m:Nat):Int):=by
    rw [← Int.natCast_mul]
    exact Ho (by omega) (by omega)
   have w8:IntKind.wrap .u64 (p:Int)=(p:Int):=Ho (by omega) (by omega)
   have w9:IntKind.wrap .u64 (((X*2^oh m:Nat):Int)+(p:Int))=(Y:Int):=by
    have:((X*2^oh m:Nat):Int)+(p:Int)=(Y:Int):=by rw [hYe,Nat.mul_comm];push_cast;omega
    rw [this]
    exact Ho (by omega) (by omega)
   have w10:IntKind.wrap .i64 ((m:Int)-1)=(m:Int)-1:=wrap64 (by omega) (by omega)
   obtain ⟨s',hs',ih⟩:=zpA w hw hg j base hj hlt m (by omega) _ (he.trans x1)
   rw [hY] at ih
   rw [hX]
   refine ⟨s',x1.trans hs',zfB _ _ _ s ?_⟩
   simp only [zew,zdt h,cu,c1,bf,el,SS.fE,l3,l7,eP,w4,w5,w8,w9,w10]
   exact ih
theorem zxe [Sym] (w:Wd) (hw:LU w) (st:SS):∃ n,st.next≤n∧cc 18 [wV w] st=some (.int .u64 (Gu w),st.dw n):=by
 have hc:(wV w).cells.toList=wRow w:=lU _
 have hm:((st.ro st.next).new (.cells (wRow w) 0)).mem.get st.next=some (.cells (wRow w) 0):=SS.fV (st:=st.ro st.next)
 have l2:((st.ro st.next).new (.cells (wRow w) 0)).eF st.next 0 12=some (wV w):=by rw [SS.rU hm,Md (by rw [rX,hw.1])];rfl
 have c3:=zr0 w hw.1 ((st.ro st.next).new (.cells (wRow w) 0))
 have hj:((((st.ro st.next).new (.cells (wRow w) 0)).new (.cells (wRow w) 0)).new (.cells (wRow w) 1)).mem.get (((st.ro st.next).new (.cells (wRow w) 0)).next+1)=some (.cells (wRow w) 1):=SS.fV (st:=((st.ro st.next).new (.cells (wRow w) 0)).new (.cells (wRow w) 0))
 obtain ⟨s',hs',hl⟩:=zpA w hw.1 hw.2 _ _ hj (by simp) 12 (fF _) _ (Ext.refl _)
 rw [zqQ hw.1] at hl
 have hl':UG 4 [.int .u64 0,.slice (some ⟨((st.ro st.next).new (.cells (wRow w) 0)).next+1,0,none⟩) 12 12,.int .i64 11] ((((st.ro st.next).new (.cells (wRow w) 0)).new (.cells (wRow w) 0)).new (.cells (wRow w) 1))=_:=hl
 refine ⟨s'.next,by have:=hs'.next;simp at this;omega,zkV _ st ?_⟩
 simp only [zin,hc,SS.fE,l2,bf,c3]
 rw [hl',bf]
 rfl
theorem zqR {nms:vJ} {N:Nat}:∀ (xs:List (Nat×fU)) (ws ws':List Wd),(∀ w∈ws,LU w)→AV nms N xs ws=.ok ws'→∀ w∈ws',LU w
 | [],ws,ws',hw,h=>by cases h;exact hw
 | x::r,ws,ws',hw,h=>by
   unfold AV at h
   split at h
   ·cases h
   ·split at h
    ·cases h
    ·refine zqR r _ ws' (fun w hm=>?_) h
     rcases List.mem_or_eq_of_mem_set hm with h1 | h1
     ·exact hw w h1
     ·rw [h1];exact zp9 _ _
theorem ztt {t:List UInt8} {ws:List Wd} {es:List (List UInt8×Int)} (h:EM t=.ok (ws,es)):(∀ w∈ws,LU w)∧ws.length≤2048:=by
 unfold EM at h
 cases hp:Ec t with
 | error z=>rw [hp] at h;cases h
 | ok xs=>
   rw [hp] at h
   simp only at h
   cases hl:AP zY xs with
   | error z=>rw [hl] at h;cases h
   | ok l=>
     rw [hl] at h
     obtain ⟨hok,hlen⟩:=XO hp
     obtain ⟨hL,_⟩:=XM xs zY l (Rt _) hok hl
     simp only [DL] at h
     cases hw:AV l.nms (sizeT l) l.ni (List.replicate (sizeT l) ny) with
     | error z=>rw [hw] at h;cases h
     | ok ws'=>
       rw [hw] at h
       simp only at h
       cases he:Bj l.nms (sizeT l) l.ents with
       | error z=>rw [he] at h;cases h
       | ok es'=>
         rw [he] at h
         cases h
         refine ⟨zqR _ _ _ (fun w hm=>by rw [List.eq_of_mem_replicate hm];exact zsb) hw,?_⟩
         rw [RU _ _ _ hw,List.length_replicate]
         exact (TT hL).2
end Go.Proofs.YtifploedaacedaaGreatDoorE
namespace Go.Proofs.YtifploedaacedaaGreatDoorE
open Go Go.E Go.Proofs
noncomputable def G7:List (Nat×iq):=[(6,.table [.chan (some 6)]),(7,.table [.chan (some 7)]),(0,.table y7),(2,.table EH)]
noncomputable def st0:SS:=⟨D9 G7,12,12⟩
theorem gd0:Gd st0:=⟨by simp [st0,D9,G7,PT.lV],by simp [st0,D9,G7,PT.lV],by simp [st0,D9,G7,PT.lV],by simp [st0,D9,G7,PT.lV],fF _⟩
theorem QB:∀ g,Lk0.glob g=true→g∈G7.map (·.1):=fun g h=>by
 have h':(Nat.beq g 6||Nat.beq g 7||Nat.beq g 0||Nat.beq g 2)=true:=h
 simp only [Bool.or_eq_true,pW,decide_eq_true_eq] at h'
 rcases h' with ((rfl | rfl) | rfl) | rfl<;>simp [G7]
theorem Vh:∀ x∈G7,x.1<12:=fun x hx=>by
 simp only [G7,List.mem_cons,List.not_mem_nil,or_false] at hx
 rcases hx with rfl | rfl | rfl | rfl<;>decide
abbrev symE (a4:TypeId) (u4:Value) (a5:TypeId) (u5:Value):Sym where
 v i:=if i=6 then .iface a4 u4 else .iface a5 u5
 ok i:=by
  refine .inr (.inr ?_)
  split<;>exact ⟨_,_,rfl⟩
abbrev VW:DataW Unit:=.agg ((AU.map fun m=>(m.1,(m.2:Int))).map fun m=>.agg [.lit (.string m.1),.lit (.int .i64 m.2)])
abbrev VU:DataW Unit:=.agg (Lib.asciiSpaceTab.map fun m=>.lit (.int .u8 m))
theorem law_at {f:Nat} {fn:Func} (hf:Lk0.func f=some (f,fn)) {W:World} {laid:List (String×DataW Unit)} (h:laidMet Tryz.prog laid W) (h4:∃ nm d,("strconv.ErrSyntax",DataW.iface nm d)∈laid) (h5:∃ nm d,("strconv.ErrRange",DataW.iface nm d)∈laid)
  (hF:("camshaft/uword.fields",VW)∈laid) (hS:("strings.asciiSpace",VU)∈laid)
  {args:List Value} (hargs:∀ x∈args,flat3 x=true) (hlaw:∀ [Sym],∃ st',cc f args st0=some (.bool true,st')):
  Calls Tryz.prog f args.toArray W fun e W'=>e=.returned (.bool true)∧RowKit.Below W.heap.size W W':=by
 obtain ⟨nm4,d4,m4⟩:=h4
 obtain ⟨nm5,d5,m5⟩:=h5
 obtain ⟨a4,u4,c4⟩:=zpa h m4 (g:=6) (t:=208) (by kernel_rfl) (by kernel_rfl) Tryz.underlying208
 obtain ⟨a5,u5,c5⟩:=zpa h m5 (g:=7) (t:=208) (by kernel_rfl) (by kernel_rfl) Tryz.underlying208
 letI:Sym:=symE a4 u4 a5 u5
 have hE:Js:=⟨⟨a4,u4,rfl⟩,⟨a5,u5,rfl⟩⟩
 obtain ⟨oF,f1,f2⟩:=ztK h hF (g:=0) (kk:=.i64) (by kernel_rfl) (by kernel_rfl) Tryz.underlying128 Tryz.underlying127 (by kernel_rfl) rfl rfl rfl Tryz.underlying9 Tryz.underlying3 rfl rfl (by kernel_rfl) (by kernel_rfl) _ (by simp [AU]) rfl
 obtain ⟨oS,s1,s2⟩:=zuT h hS (g:=2) (kk:=.u8) (by kernel_rfl) (by kernel_rfl) Tryz.underlying233 Tryz.underlying5 (by kernel_rfl) _ rfl
 obtain ⟨st',hl⟩:=hlaw
 refine P9 gu (zxH hE) hf (l:=G7) (nx:=12) hl rfl hargs (fun x hx=>?_) QB Vh
 simp only [G7,List.mem_cons,List.not_mem_nil,or_false] at hx
 rcases hx with rfl | rfl | rfl | rfl
 ·exact zvc (i:=6) c4
 ·exact zvc (i:=7) c5
 ·exact ⟨oF,f1,f2 _⟩
 ·exact ⟨oS,s1,s2 _⟩
end Go.Proofs.YtifploedaacedaaGreatDoorE
namespace Go.Proofs.YtifploedaacedaaGreatDoorE
open Go Go.E Go.Proofs
theorem zxf (s s':ByteArray) (a a':Int):Nw Tryz.prog Lk0 39 (.agg #[.string s,.int .i64 a]) (.agg #[.string s',.int .i64 a'])=some (fA s s'&&(decide (a=a')&&true)):=by kernel_rfl
theorem ztu {t:List UInt8} {ws:List Wd} {es:List (List UInt8×Int)} (h:EM t=.ok (ws,es)):es.length≤t.length+1∧∀ e∈es,e.1≠[]∧0≤e.2∧e.2<ws.length:=by
 unfold EM at h
 cases hp:Ec t with
 | error z=>rw [hp] at h;cases h
 | ok xs=>
   rw [hp] at h
   simp only at h
   cases hl:AP zY xs with
   | error z=>rw [hl] at h;cases h
   | ok l=>
     rw [hl] at h
     obtain ⟨hok,hlen⟩:=XO hp
     obtain ⟨hL,hen⟩:=XM xs zY l (Rt _) hok hl
     simp only [DL] at h
     cases hw:AV l.nms (sizeT l) l.ni (List.replicate (sizeT l) ny) with
     | error z=>rw [hw] at h;cases h
     | ok ws'=>
       rw [hw] at h
       simp only at h
       cases he:Bj l.nms (sizeT l) l.ents with
       | error z=>rw [he] at h;cases h
       | ok es'=>
         rw [he] at h
         cases h
         have key:∀ (xs:List (Val×Nat×Nat)) (es:List (List UInt8×Int)),(∀ e∈xs,e.1.nm≠[])→Bj l.nms (sizeT l) xs=.ok es→es.length=xs.length∧∀ e∈es,e.1≠[]∧0≤e.2∧e.2<sizeT l:=by
          intro xs
          induction xs with
          | nil=>intro es _ h;cases h;exact ⟨rfl,fun e he=>by cases he⟩
          | cons x r ih=>
            intro es hx h
            unfold Bj at h
            split at h
            ·cases h
            ·split at h
             ·cases h
             ·rename_i hc
              split at h
              ·cases h
              ·rename_i es2 h2
               cases h
               obtain ⟨k1,k2⟩:=ih es2 (fun e he=>hx e (by simp [he])) h2
               refine ⟨by simp [k1],fun e he=>?_⟩
               rcases List.mem_cons.1 he with rfl | he
               ·exact ⟨hx x (by simp),by simp only;omega,by simp only;omega⟩
               ·exact k2 e he
         obtain ⟨k1,k2⟩:=key _ _ (fun e he=>(hL.ent e he).1) he
         refine ⟨by rw [k1];simp [zY] at hen;omega,fun e he=>?_⟩
         rw [RU _ _ _ hw,List.length_replicate]
         exact k2 e he
end Go.Proofs.YtifploedaacedaaGreatDoorE
namespace Go.Proofs.YtifploedaacedaaGreatDoorE.Uw
abbrev W:=List UInt8
def wg:W:=[10]
def wA:W:=[32]
def uQ:W:=[44]
def qG:W:=[46]
def wq:W:=[48]
def wj:W:=[49]
def we:W:=[50]
def wi:W:=[51]
def wt:W:=[52]
def wz:W:=[53]
def yk:W:=[54]
def uc:W:=[55]
def uE:W:=[56]
def jB:W:=[57]
def uj:W:=[58]
def ky:W:=[59]
def yR:W:=[61]
def wh:W:=[97]
def wm:W:=[98]
def wn:W:=[99]
def ww:W:=[100]
def wk:W:=[101]
def ue:W:=[102]
def uI:W:=[103]
def yz:W:=[104]
def wP:W:=[105]
def jc:W:=[106]
def wU:W:=[107]
def wC:W:=[108]
def ut:W:=[109]
def wD:W:=[110]
def wE:W:=[111]
def wo:W:=[112]
def jO:W:=[113]
def wl:W:=[114]
def wa:W:=[115]
def wx:W:=[116]
def ug:W:=[117]
def wX:W:=[118]
def uC:W:=[119]
def um:W:=[120]
def yg:W:=[121]
def qx:W:=[122]
def ye:W:=wA++wh
def qE:W:=wA++wa
def kE:W:=yR++wC
def jE:W:=qx++wk
def kz:W:=wE++wD
def jG:W:=ww++yR
def qY:W:=wP++jE
def jk:W:=qE++qY
def jF:W:=kz++uI
def jM:W:=jk++kE
def uJ:W:=jM++jF
def qI:W:=wC++ug
def jN:W:=ye++qI
def jl:W:=jN++yR
def ym:W:=wA++jG
def wG:W:=uJ++wg
def uf:W:=ye++yR
def yS:W:=wP++wx
def jD:W:=qE++wk
def jP:W:=jD++jO
def uk:W:=jP++yR
def qH:W:=ut++wE
def qD:W:=qH++wX
def wB:W:=wG++jl
def qc:W:=wA++wx
def qF:W:=wA++wm
def qX:W:=qc++wE
def wY:W:=qF++yR
def ub:W:=qX++yR
def jm:W:=qD++uf
def uv:W:=ym++wx
def jd:W:=ut++wo
def jI:W:=wA++ut
def jr:W:=wC++yS
def jQ:W:=wA++jr
def uU:W:=jQ++yR
def wy:W:=uj++jl
def qO:W:=wA++wn
def jq:W:=kE++yS
def jH:W:=jq++uU
def jJ:W:=uk++wn
def qL:W:=wk++ut
def kj:W:=wl++wE
def wF:W:=wg++jl
def wO:W:=ye++jH
def jR:W:=jI++qL
def jn:W:=jR++yR
def uh:W:=uf++wx
def wT:W:=wY++wx
def uM:W:=jE++kj
def uG:W:=ym++wl
def jS:W:=jJ++jc
def jT:W:=jS++qO
def qZ:W:=jT++kz
def yl:W:=ut++ww
def uY:W:=wB++jm
def uV:W:=wD++ww
def qT:W:=qZ++jG
def ki:W:=wa++yz
def jU:W:=uk++jc
def qR:W:=jU++jd
def wR:W:=ym++wX
def kZ:W:=qR++ub
def kK:W:=wn++jd
def jK:W:=wn++yR
def uS:W:=wx++wk
def uK:W:=ym++uM
def uT:W:=wP++wa
def qP:W:=wk++wx
def yL:W:=wG++qT
def uq:W:=wG++jn
def jf:W:=uV++wg
def jo:W:=wo++ug
def jt:W:=wh++ww
def wW:W:=jt++ww
def kB:W:=wh++wC
def yB:W:=uK++yL
def jh:W:=jI++uT
def wS:W:=wl++wj
def yC:W:=wX++wq
def yh:W:=jh++jK
def wJ:W:=wF++jm
def wK:W:=wR++wh
def wM:W:=uG++wj
def jz:W:=wk++jf
def ya:W:=ym++yl
def wQ:W:=uk++jz
def ua:W:=wa++wx
def wH:W:=wy++jm
def yp:W:=uq++wm
def wI:W:=uv++wq
def ud:W:=kK++wn
def yI:W:=wk++uI
def wL:W:=wT++wq
def jL:W:=wB++ki
def qJ:W:=jk++yR
def kC:W:=wn++ub
def wN:W:=uJ++kZ
def kG:W:=wl++wO
def wZ:W:=qx++ub
def jv:W:=wa++ug
def kD:W:=wh++wl
def qd:W:=jv++wm
def qM:W:=kB++wC
def jC:W:=wa++qP
def jg:W:=wE++uC
def qa:W:=wE++wl
def yx:W:=wY++wl
def jV:W:=qO++jK
def qC:W:=jV++jC
def yD:W:=yB++wD
def kh:W:=jo++wx
def ui:W:=uv++uc
def qW:W:=qD++wn
def ji:W:=jg++wD
def un:W:=wg++kZ
def uo:W:=wl++yI
def qK:W:=wW++uh
def yy:W:=wY++wX
def ja:W:=uC++wl
def uu:W:=uf++yC
def qr:W:=wC++wO
def yV:W:=wk++um
def uw:W:=wh++wx
def qS:W:=wD++wk
def kF:W:=wg++jn
def yZ:W:=wk++wC
def ux:W:=uv++wt
def uy:W:=uh++yk
def uz:W:=wP++wD
def qQ:W:=wo++wa
def uA:W:=uj++yh
def uB:W:=wl++wg
def ju:W:=wU++wa
def jW:W:=jJ++qM
def qB:W:=jW++ub
def qo:W:=uf++wl
def uD:W:=wk++wD
def qA:W:=wg++qT
def kV:W:=wk++wa
def qg:W:=ja++jF
def kH:W:=qD++wO
def uF:W:=jL++kG
def uH:W:=qW++wz
def jX:W:=wE++wE
def qy:W:=jX++ju
def qz:W:=uY++yl
def uL:W:=uY++wx
def qU:W:=uJ++qC
def uN:W:=uv++wi
def uO:W:=uY++wh
def qN:W:=qx++um
def uP:W:=qd++uh
def uR:W:=wh++uV
def je:W:=uj++jn
def uW:W:=qS++kD
def uX:W:=wB++qK
def uZ:W:=uv++wj
def yb:W:=wY++wS
def yc:W:=wT++wj
def yd:W:=wB++qa
def yf:W:=wE++wo
def jA:W:=yg++uS
def yi:W:=wz++wG
def yj:W:=uf++yl
def yo:W:=qQ++wC
def yq:W:=wl++qP
def yr:W:=jo++ki
def qV:W:=uI++qP
def yu:W:=uS++wl
def js:W:=wP++ue
def jY:W:=qJ++wm
def yv:W:=jY++jA
def yw:W:=wk++wn
def yA:W:=wy++ki
def yE:W:=wB++kK
def yF:W:=uv++we
def yG:W:=jL++qr
def yH:W:=uG++wq
def yJ:W:=wk++wl
def yK:W:=je++js
def jZ:W:=yz++kB
def yM:W:=jZ++wx
def ga:W:=ya++yp
def yN:W:=ga++kh
def yO:W:=uS++ua
def yP:W:=wg++qB
def yQ:W:=ya++qU
def yT:W:=wx++wl
def yU:W:=wn++yz
def jp:W:=qA++ue
def yW:W:=qJ++ji
def yX:W:=wj++yk
def yY:W:=qF++jH
def ka:W:=uf++wX
def gb:W:=ue++qI
def gc:W:=gb++ki
def kf:W:=gc++wQ
def kg:W:=qc++yz
def jx:W:=jo++uS
def km:W:=kF++wm
def ko:W:=wy++kK
def kp:W:=uh++wt
def kq:W:=uv++yk
def kr:W:=yD++kC
def ku:W:=we++wt
def kv:W:=uY++uM
def kw:W:=yx++wq
def gd:W:=qN++uC
def kx:W:=gd++qo
def kA:W:=jp++ub
def jy:W:=jx++jf
def kI:W:=qg++wF
def kJ:W:=wP++wn
def ge:W:=yp++wC
def kL:W:=ge++ww
def kM:W:=qV++qz
def gf:W:=ue++wP
def gg:W:=gf++yZ
def kN:W:=gg++ww
def kO:W:=yB++kC
def kP:W:=yV++wx
def kQ:W:=qD++kV
def kR:W:=wg++ud
def gh:W:=qX++kE
def kS:W:=gh++qy
def kT:W:=ww++wk
def kU:W:=wP++wC
def kW:W:=ww++ji
def kX:W:=wl++wD
def kY:W:=wG++yh
def qe:W:=wJ++wx
def qf:W:=wj++wM
def qh:W:=wF++kH
def qi:W:=kZ++jy
def qj:W:=yy++wj
def qk:W:=wt++wK
def ql:W:=uY++wX
def qm:W:=wY++yC
def qn:W:=wT++wi
def qp:W:=wT++we
def qq:W:=ug++wD
def qt:W:=uG++we
def qu:W:=uG++wi
end Go.Proofs.YtifploedaacedaaGreatDoorE.Uw
namespace Go.Proofs.YtifploedaacedaaGreatDoorE
open Uw
def Vd:List UInt8:=[ky,ye,wD,wA,uz,ua,wl,ug,wn,wx,wP,kz,qF,yI,uz,wa,uj,wA,yS,wa,qO,wE,kT,uQ,wA,yS,wa,wA,yf,yJ,uR,wa,uQ,wA,yS,wa,qO,wC,wh,wa,wa,wg,qG,uD,yT,yg,wA,ue,qP,yU,wg,qG,uD,yT,yg,wA,yf,yJ,wh,jf,qG,uD,yT,yg,qF,wl,wh,wD,yU,wg,qG,uD,yT,yg,wA,ue,wh,ug,wC,wx,wg,qG,uD,yT,yg,wA,uz,yu,wl,ug,wo,wx,wg,ue,qP,yU,yK,yv,wg,yh,ww,yw,wE,kT,kA,kU,wC,yI,kB,jp,wo,ww,ub,wh,uI,wh,uz,wg,uk,wa,wo,wk,kC,yV,yw,wg,wh,uI,wh,uz,wH,ua,kD,wx,wM,yi,uk,wa,wo,wk,kC,wa,uS,qQ,wg,kU,wC,yI,kB,uA,wl,wh,uT,wk,uU,wq,um,wj,wq,wQ,yf,yJ,uR,yK,yv,wg,uk,qH,kT,ub,qH,ww,kV,wg,wm,wl,wh,wD,yU,yK,yW,wF,wa,um,wE,yj,wR,wn,uJ,uk,wa,wo,wk,kC,yV,yw,wg,qG,kB,wP,uI,wD,wA,yX,wg,qH,ww,kV,uj,qR,qX,jq,yJ,kB,un,wP,uV,yV,wk,ww,un,uo,uT,yu,un,kT,ue,yJ,wl,wk,ww,un,kW,un,ug,wo,un,ug,wo,uw,un,qS,wh,wS,un,qS,wh,wS,uw,un,uW,we,un,uW,we,uw,un,uW,wt,un,uW,wt,uw,un,wD,jg,un,wh,wm,wa,wE,qI,uS,wg,yh,wl,wh,uT,wk,uU,wq,um,wj,wn,wQ,jr,yJ,kB,wy,uR,yj,yY,yk,wi,wR,wn,yv,uk,wa,wo,wk,kC,yV,yw,wg,wP,uV,yV,wk,ww,uj,jh,wn,kE,uw,yU,um,kF,js,yv,wg,uk,qH,kT,ub,qH,ww,kV,wg,uo,uT,yu,uj,jh,wn,kE,uw,yU,wU,wJ,kX,wR,wn,yW,uk,wa,wo,wk,kC,yV,yw,wg,kT,ue,yJ,wl,wk,ww,wH,kX,wK,wN,wW,uB,kW,wy,wD,yI,uf,wE,wa,qY,wI,kY,wa,uS,wo,uh,wq,wJ,kX,wK,wN,wW,uB,ug,wo,wH,kX,wK,kY,wa,uS,wo,uf,wE,wa,qY,kZ,wW,uB,ug,wo,uw,wH,kX,wK,kY,wa,uS,wo,wO,wt,kF,wl,ww,qz,wK,wN,wW,uB,qS,wh,wS,yK,yv,wF,wa,um,wm,yj,wI,wN,uW,wg,uW,we,yK,qJ,uC,qa,ww,wF,wa,um,uC,yj,wI,wN,uW,wg,uW,wt,yK,qz,wI,wG,uW,wy,qK,wq,yx,wD,wK,wN,wW,uB,qS,wh,wS,uw,yK,yv,wF,wa,um,wm,yj,wI,wN,uW,uw,wg,uW,we,uw,yK,qJ,uC,qa,ww,wF,wa,um,uC,yj,wI,wN,uW,uw,wg,uW,wt,uw,yK,qz,wI,wG,uW,uw,wy,qK,wq,yx,wD,wK,uq,wl,ww,qz,wK,wN,wW,uB,wD,jg,yK,yW,wJ,yl,wR,wn,uJ,uk,wa,wo,wk,kC,yV,yw,wg,wh,wm,wa,wE,qI,uS,yK,qz,wK,wG,wW,wl,uj,qT,wD,wE,wP,uV,yV,ub,wW,wl,we,wF,ut,ug,wC,uf,wE,wa,qY,yx,um,wI,uX,wq,yy,wh,wK,wG,wW,wl,we,wH,wX,wh,ym,wh,wn,yL,wD,qa,wk,jt,wa,ub,ww,kz,wk,kF,wl,ww,yW,wJ,yl,wR,wn,wG,ww,kz,wk,uj,uk,wa,wo,wk,kC,yV,yw,wg].flatten
def Vb:List UInt8:=[ky,wA,ue,wh,ug,wC,wx,wa,uQ,qc,wl,wh,qQ,ye,uV,wA,uz,yu,wl,ug,wo,wx,wa,uj,ye,wA,yz,uR,wC,yJ,wA,uT,wA,uI,kz,wk,qX,wg,ue,wh,ug,wC,wx,uA,ug,uV,wE,wJ,ua,kD,wx,wM,yi,yT,wh,wo,yA,kG,yX,wY,yo,wI,wB,uR,uh,wq,yY,wi,wj,wA,ww,kE,wk,wX,yZ,wG,uz,yu,wl,ug,wo,wx,wy,wW,ka,yw,wY,wa,wn,wm,wm,wK,uq,wl,ww,wo,yL,ue,ub,yM,wi,wF,uR,yj,yY,wi,uJ,uK,qA,wD,wZ,yM,wt,wJ,yl,wI,yp,wn,wC,wl,wF,uR,uf,wD,wo,yY,we,yB,wZ,uD,uS,wS,wJ,wo,wj,yN,wG,uD,uS,wS,wy,yO,uf,wD,wo,yB,wZ,uD,yu,we,wJ,wo,wq,yN,wG,uD,yu,we,wH,wS,wz,yN,uY,yo,yN,wB,qd,uf,wn,wD,wx,wY,ju,wo,wK,uq,wU,ua,kA,yM,we,wJ,wX,wh,uZ,kY,uD,yu,qe,qf,wt,uL,wq,wM,wz,uq,kf,yM,we,uA,yM,uU,we,wQ,yM,wi,uA,yM,uU,wi,wQ,yM,wt,uA,yM,uU,wt,wQ,qg,uA,wl,wh,uT,wk,uU,wq,um,wj,uE,wQ,ww,wP,wX,wP,kT,wy,kH,we,ym,wo,wq,kY,wo,kD,wh,ut,wa,uU,wj,qh,wq,um,wi,wt,wR,yw,wN,yT,wh,wo,wg,yU,ut,wU,wy,wa,um,uC,uu,ym,wo,wq,kY,wo,kD,wh,ut,wa,uU,wj,qh,wq,um,wt,wq,wR,yw,wN,yT,wh,wo,wg].flatten
def Va:List UInt8:=[ky,wA,wl,wk,jv,wC,wx,wa,uQ,ye,uV,wA,uC,yz,uw,wA,yz,wh,wa,kg,qL,wg,kh,uA,ji,wC,wh,ua,wg,qZ,ww,kE,wh,ua,uo,ub,kh,uo,wJ,kB,wK,uq,ja,yW,wg,uk,yq,wg,kh,uo,wH,yl,ym,wU,wC,yW,uk,yq,wg,jx,uV,uj,qB,kh,wg,wD,yf,uj,wQ,kz,wk,wy,yf,uu,wY,uM,ya,yW,qC,qi,wx,uC,wE,wy,yf,uu,qj,ya,yW,qC,yP,kh,qA,ww,wP,wX,ub,ww,wP,wX,wP,kT,wg,wQ,wx,ua,wy,yf,uu,wY,uM,uK,yW,qC,wQ,wo,wh,wP,wl,wy,yf,uu,qj,uK,yW,qC,wQ,wn,wX,wx,wy,wn,wX,wx,uu,yQ,qi,qD,wh,wH,wh,wq,yQ,qi,wh,ki,wy,wh,ki,uu,qj,yQ,qi,kj,wx,wy,kj,wx,uu,qj,yQ,qi,qD,yo,wH,yo,ya,wN,jy,yr,wy,qd,wO,wt,yb,qk,uq,ja,ql,wh,wM,wt,uJ,uk,yq,wg,yr,wh,wH,wh,wq,yQ,kZ,yr,jz,yr,wC,wH,yC,yQ,wg,yr,wk,uV,uj,qB,yr,wg,wQ,wm,uT,yA,kG,wt,qm,yD,wZ,kI,qa,uu,wY,yo,ym,yo,uJ,wQ,wm,kJ,yA,kG,wt,qm,yD,wZ,kI,wm,kJ,uu,wY,yo,ym,yo,uJ,wQ,ut,wx,wo,wl,uA,ut,wx,wo,wl,uu,qj,kA,qg,wJ,yC,uK,qU,kF,kf,ut,ue,wo,wl,uA,ut,ue,wo,wl,uu,kA,qg,wJ,yl,yQ,qi].flatten
def U9:List UInt8:=[ky,wA,yZ,wa,wk,uC,yz,yJ,wk,wg,yM,uj,qT,ug,wa,yJ,ub,kU,wC,yI,kB,wg,yh,yM,uU,wj,wQ,wm,wo,wx,uA,wl,wh,uT,wk,uU,wq,um,we,wn,wQ,wm,wl,wy,wW,uf,ww,uT,wo,yb,wz,wM,wz,uq,kf,wm,wn,wn,uj,qT,wx,wh,wU,uD,ub,wm,uB,wQ,wm,wa,wm,wH,wS,wz,ya,wG,qB,yr,un,wm,uB,jc,wa,wm,wH,wS,wz,ya,wG,qB,yr,wg,jc,ug,jd,wH,wh,wq,wM,wz,uq,kf,wl,wa,wm,wH,wS,qk,uq,wl,ww,wB,wW,wO,wt,yb,wt,wM,wt,qz,wM,wz,uq,kf,wm,wC,wm,wy,uR,wO,wj,qm,yB,ut,uw,yU,ub,wm,uB,wQ,wh,wE,wm,wy,uz,wn,ka,wj,yQ,wU,yP,kh,wF,kK,yj,qm,uK,wG,qZ,ww,kE,kV,wa,wh,qI,ub,wm,uB,wQ,wa,wE,wm,wy,ww,yw,uu,yQ,wU,yP,kh,wF,kK,uf,uM,wY,yl,uK,wG,qZ,ww,kE,kV,wa,wh,qI,ub,wm,uB,wQ,wl,wk,wP,wH,wS,qk,wB,kH,uE,ui,kL,km,kM,wI,yp,qV,kY,wm,wh,wn,wU,yj,kA,kI,wW,wO,uE,yb,wt,wM,wt,kY,kh,yo,yj,qe,wq,wM,wz,uq,kf].flatten
def U8:List UInt8:=[ky,wA,kN,wa,uj,wA,wo,wE,wa,yS,wP,kz,qc,wq,uQ,jk,qc,wj,uQ,ye,ww,ww,wl,kV,wa,qc,we,uQ,wA,qa,kg,wk,wA,uo,uT,yu,wA,kX,ky,kg,wk,wA,kj,uC,uQ,wA,yS,wa,qF,yS,qc,wt,uQ,wA,yS,wa,wA,wo,wC,wh,wn,wk,wA,wX,wh,uQ,wA,yS,wa,qF,jA,wa,qc,uc,wg,kN,uo,ko,wO,wi,wj,wL,kO,kI,qK,wq,yc,uN,yE,wO,wi,we,qn,kO,qg,kF,kj,uC,wh,qo,wD,qe,wq,ux,uJ,uk,yq,wg,kN,ut,qL,wy,wh,ki,wO,wq,um,ue,ww,wL,uN,uX,wi,qp,wK,wB,uR,uh,wq,yY,uc,ux,uX,wt,yc,ui,wB,wW,wO,uc,wT,uc,ui,uF,wi,wT,uc,ui,kL,kF,kj,uC,uk,yq,wg,wm,wm,wH,yC,wI,wB,kH,wj,uZ,uO,wj,yF,yL,wU,wj,ub,wm,wm,uo,yP,kN,ut,qL,wg,wm,wm,uI,wE,wy,kP,kp,yc,yB,ut,uw,yU,ub,wm,uB,wQ,wm,wm,uo,uA,wa,yZ,wU,uU,wj,yP,kN,uo,un,wm,wm,uI,wE,wg,kP,ko,wO,wi,we,qj,kO,qg,wJ,yC,wI,uO,we,yF,ql,wj,uZ,yL,wZ,kP,uM,qA,wU,we,ub,kP,uo,yP,kN,ut,qL,wg,kP,uI,wE,wy,kP,kp,yc,yQ,qi,kP,uo,uA,wa,yZ,wU,uU,we,yP,kN,uo,un,kP,uI,wE,wg,kP,uM,wy,yO,uf,uM,yQ,qi,uz,wa,ko,wO,wi,we,yy,we,kO,qg,wJ,wX,wj,wI,uO,wi,yF,ql,we,uZ,yL,wZ,wD,yf,qA,wU,wi,ub,uz,wa,uo,yP,kN,ut,qL,wJ,yC,ya,wB,uz,wa,kp,yc,uK,uq,qq,kj,uC,km,ua,wQ,uz,wa,uo,uA,wa,yZ,wU,uU,wi,yP,kN,uo,wJ,yC,ya,wB,uz,wa,kp,yc,uG,wD,uJ,wQ].flatten
def U7:List UInt8:=[ky,wA,wo,kj,wn,wk,ww,ug,wl,kV,uQ,ye,uV,wA,uo,uT,yu,wa,wA,kz,kg,wk,qE,wx,wh,wn,wU,wg,wn,qM,wa,wH,wh,wj,wK,uq,wl,ww,qJ,uC,qa,ww,wJ,yl,wI,uF,wj,we,wL,uZ,wB,uR,uh,wj,yY,wi,yD,wZ,kI,qd,wO,wt,yb,wt,uZ,uL,wj,wK,wB,kH,wt,ui,uq,wo,kj,wm,wk,km,wn,wC,wl,wJ,uM,yN,yG,wi,wq,yc,yF,yG,we,wq,wL,uN,uF,wt,qn,uN,yd,uh,we,qn,yF,wB,kH,wj,ux,yG,we,jB,wT,wt,ux,yd,kp,qp,yN,uY,wS,we,yN,uY,wS,wi,yN,uY,wS,wz,yN,yG,we,wq,wL,uv,wz,uF,we,wq,wT,wz,uv,yi,wn,qM,wa,wj,uA,wo,kJ,wU,kA,wn,qM,wa,we,wg,yh,wa,yZ,uy,wJ,kX,yN,wN,wn,qM,wa,wj,wg,wn,qM,wa,we,wy,wm,kJ,wO,wi,yc,yF,wB,qd,uf,wn,wD,wx,qp,uN,uL,wi,wK,uY,wn,wD,wx,ui,uq,wo,kj,wm,wk,qe,wj,wK,uY,yC,ya,uq,ja,uL,wi,wK,yp,ua,qe,wi,wM,wt,uL,wi,wM,wi,uL,qf,we,wB,wW,wO,we,wY,wh,qf,wz,wB,wm,kJ,wO,wj,wz,wY,yo,ym,yo,uq,kf,yq,wH,wS,wi,wK,wB,kH,we,wq,ui,kL,km,qV,yp,kM,wI,uF,wt,wL,uZ,yG,we,wq,yc,yD,wZ,kI,ki,kG,we,uE,wL,uZ,wB,uR,uh,wj,yY,wj,yD,wZ,qg,km,kM,uZ,yp,kM,yF,yp,kM,uN,yG,wt,wL,uv,wz,uF,we,wq,wT,wz,uv,yi,yh,wn,wE,qq,wx,wF,wW,wO,we,wq,yb,wi,wK,kL,wF,qK,uc,yy,wh,wK,uF,wi,wq,wL,ux,uX,wt,yy,wh,wK,uF,we,jB,wL,ux,wB,uR,kp,yY,wj,yB,wZ,yq,wj,kF,wl,ww,wB,qN,wm,yj,ya,yG,we,wY,yl,ya,wB,wW,wO,wt,wY,yl,ya,wB,wW,yj,yy,wh,wK,wG,yq,wj,uA,wo,kJ,wU,kA,yq,we,wg,yh,wa,yZ,uy,km,kM,uG,wD,wN,yq,wj,wg,yq,we,wH,wx,qf,we,uL,we,wM,wi,ql,wh,wM,wt,uL,wi,wM,wz,wB,wm,kJ,wO,wj,wz,wY,yo,ux,wB,uR,uh,wq,yY,wj,wz,kq,yd,kp,wT,yk,ym,yo,uq,kf,yr,wl,yA,qr,wj,uc,qm,uv,wz,uF,wj,uc,wT,wz,uv,wz,yp,wn,wC,uB,yr,wS,uA,wo,kJ,wU,kA,yr,wl,we,wg,yh,wa,yZ,uy,wJ,kX,yN,wN,yr,wS,wg,yr,wl,we,wy,qd,uf,wn,wD,wx,yb,qk,yp,ua,wJ,wX,wh,wM,wt,uJ,wQ,wo,yf,wl,yA,qr,wj,uc,qm,uv,wz,uF,wj,uc,wT,wz,uv,yi,yh,wn,wE,qq,wx,wJ,wS,qk,kL,wF,qK,uc,yb,wt,wM,wt,wG,wo,yf,wS,uA,wo,kJ,wU,kA,wD,yf,wg,yh,wa,yZ,uy,km,kM,uG,wD,wN,wo,yf,wS,wg].flatten
def U6:List UInt8:=[ky,qE,yT,uz,uI,wa,kg,uw,wA,qD,wk,uj,kg,wk,wP,wl,wA,uo,uT,yu,wa,uQ,ye,uV,kg,wk,wP,wl,qE,uS,qQ,wg,kW,wa,wH,uM,uZ,wB,uP,wt,wT,wz,yF,yL,wZ,kW,wa,wj,wF,kK,uh,we,qn,kr,kW,wa,wj,qh,wj,uZ,wG,kW,wa,wj,uj,uk,yq,wg,qW,wi,wH,yC,uN,uO,wj,ux,uO,we,uv,yi,qB,kW,wa,wF,ki,qr,ku,wY,kU,uD,wI,yd,uu,wL,yH,uO,qf,uY,yC,qt,uO,we,qu,uL,wj,uG,wt,kv,uG,yi,wm,yI,qq,wH,ua,kD,wx,wM,yi,yh,jC,ue,wo,ww,wg,ua,wh,yg,je,kf,uH,wH,yC,uN,yE,ka,wi,qm,kr,uH,wh,wJ,wX,wi,uN,wG,uH,wh,wH,wh,wj,ux,uO,wt,uv,yi,qB,kW,wa,wF,ki,qr,ku,wY,kU,uD,wI,yG,yX,yy,we,kq,yd,uy,wL,wI,yd,uh,wi,wL,yH,uO,qf,yG,yX,yy,wi,kq,yd,uu,wT,yk,qt,uO,wt,qu,uL,wj,uG,wt,wB,uP,wi,yy,wi,uG,wz,wN,wm,yI,qq,wg,kQ,wH,wx,wq,ui,yE,wO,uE,wL,kr,kQ,wj,qh,uE,ui,wG,kQ,wj,wy,uR,qo,wt,yY,wj,yD,wZ,kQ,we,wF,uP,wq,qn,ux,wN,kQ,wi,wg,kQ,we,wy,uP,uc,wL,ux,wG,kQ,wi,wy,wW,uf,wS,wT,qk,kL,wF,wW,qo,wi,wT,qk,yp,ua,wF,uP,uc,kw,yH,uJ,uk,yq,wg,qW,wi,wa,wy,kx,wq,wI,wB,kx,we,uN,yE,uh,wi,wL,kO,kI,yO,uh,wq,yB,wZ,qW,wi,wk,yP,kQ,wF,kx,wq,wI,yL,wD,wZ,ua,wh,yg,wg,qW,wi,wk,yA,kG,ku,kw,ui,kv,yH,uX,wi,yb,wM,kv,qt,uX,wi,yx,wi,qu,kv,uG,wt,kv,uG,wz,wB,yO,uf,uM,uK,qU,wg,wE,wX,yJ,wy,wW,uf,ua,kD,wx,wT,uc,wM,yi,yh,wn,wC,wl,ue,wo,ww,kF,kf,uH,wa,wy,kx,wq,wI,wB,kx,we,uZ,uF,yX,yx,we,yF,uL,wj,uN,yE,uh,we,yc,kr,uH,wm,qe,we,uN,wG,uH,wm,ko,uh,wi,wL,kO,kI,uP,wi,qp,kq,yE,uy,yx,wz,kO,kI,yO,uh,wq,yB,wZ,uH,ue,yP,kQ,un,uH,wn,wg,uH,ue,wH,wl,wz,ui,yL,wZ,uH,wk,wF,kK,wO,uE,wT,uc,kr,uH,uI,qh,uE,ui,wG,uH,uI,wy,wW,qo,wi,qp,ux,wB,qd,qo,wz,wT,qk,uF,yX,kw,ux,wB,qN,wm,kp,ya,uL,uc,ux,yp,wn,wC,uB,uH,yz,je,wm,kh,yv,wF,ww,yw,kp,ux,yL,wD,wZ,uH,yz,km,ua,wF,uP,uc,yx,wz,uG,yi,uH,wn,wy,kx,wq,wI,yL,wD,wZ,ua,wh,yg,wF,yO,qo,wz,yD,wZ,ua,wh,yg,wg,uH,wk,yA,kG,ku,kw,ui,wB,uP,wi,yc,yH,uX,wi,yb,wM,kv,qt,uX,we,yx,wi,qu,kv,uG,wt,kv,uG,wz,yE,uh,wj,qp,uK,qJ,uC,qa,ww,qC,kZ,wE,wX,wk,uB].flatten
def U5:List UInt8:=[ky,qE,yT,uz,uI,wa,kg,uw,ye,wl,wk,qO,wE,jd,kD,wk,ww,uQ,ye,uV,jD,kD,yU,wk,ww,uj,kg,wk,wP,wl,wA,uo,uT,yu,wa,uQ,ye,uV,kg,wk,wP,wl,qE,uS,qQ,kR,wi,yA,qr,ku,wY,kU,uD,wI,yd,uu,wL,yH,uO,qf,kv,qt,uO,we,qu,wN,wm,yI,qq,kR,wz,yA,qr,ku,wY,kU,uD,wI,yG,yX,yy,we,kq,yd,uy,wL,wI,yd,uu,wL,yH,uO,qf,ql,wi,qt,uO,wt,qu,wN,wm,yI,qq,wg,wC,wE,wn,wn,yA,qr,ku,wY,kU,uD,wI,yG,yX,qm,kq,yd,uy,wL,wI,yd,ka,wj,wL,yH,uO,we,wM,wN,wm,yI,qq,kR,wi,wa,wy,kx,wq,uZ,kv,wR,wz,wN,ud,kR,wz,wa,wy,kx,we,uZ,wB,kH,wj,wR,yi,ud,wy,kx,wq,wI,uF,yX,kw,wR,we,wB,qN,wm,ka,we,wR,we,uL,wq,yF,yE,wO,uE,wL,kr,ud,wh,qh,uE,yF,wG,ud,wh,wH,wx,wj,uN,yE,wO,uE,yc,kr,ud,wm,qh,uE,uN,wG,ud,wm,wH,wx,we,ui,uY,wS,wK,kL,km,kM,ux,yp,kM,uv,wz,uL,wi,ui,uY,wl,wi,wK,kL,wJ,uM,kq,wG,ud,yz,ko,uy,qp,kO,ud,um,wJ,wX,we,wR,wq,yE,uy,qn,kO,ud,qx,un,ud,wa,kR,um,wy,qN,wm,kp,wR,wq,uF,uE,wT,wt,ux,yG,ku,wT,wz,ui,yd,uh,uc,wT,wt,ux,uF,uE,wT,wz,uv,wz,ql,we,wR,wj,yE,uy,qn,kr,ud,wx,kR,qx,je,wm,qV,yv,wJ,yl,wR,wj,wG,ud,wx,ko,uu,qj,uK,yv,qA,wD,wZ,ud,ww,wF,uz,wn,uy,kq,wN,ud,yz,kR,wa,wy,uP,we,wL,wR,wi,wB,uP,wi,yc,wR,wt,yd,ka,wi,yy,wt,yB,wZ,ud,wk,wF,uP,we,kw,yH,uX,we,yb,wM,uX,wi,yx,wi,qu,wB,yO,ka,wz,yB,wZ,ua,wh,yg,wF,uP,wi,yx,we,qt,wN,ua,wh,yg,kR,wk,wy,yO,uf,uM,uK,qU,kZ,ud,ue,kR,ww,ko,uu,qj,uK,yv,qC,wF,kK,uy,qp,kr,ud,wU,qe,yk,yF,wG,ud,wU,ko,uy,qn,kr,ud,wC,qe,yk,uN,wG,ud,wC,wy,uP,we,wL,wR,wi,wB,uP,wi,yc,wR,wt,wG,ud,ue,yA,kG,ku,kw,ui,ql,wi,yH,uX,we,yb,wM,ql,wt,qt,uX,wi,yx,wi,qu,wN,wE,wX,wk,uB,wC,wE,wn,wn,wa,wy,kH,wj,wR,wz,uJ,qR,kS,wg,wa,wU,wo,wn,wa,wH,uM,wR,yi,wC,qy,wy,kx,wq,wI,uF,yX,kw,wR,we,wB,qN,wm,ka,we,wR,we,uL,wq,ui,yE,wO,uE,wL,yD,wn,kS,wj,qh,uE,ui,wG,wC,qy,wj,wH,wS,wK,kL,wJ,uM,kq,wG,wC,qy,we,ko,uy,wT,uc,yD,wn,kS,wz,km,qV,yv,wF,kK,yj,yy,we,uK,yv,qA,qx,kS,wi,wF,yO,ka,wz,yB,qx,kS,yk,wg,qR,kS,wt,wg,wC,qy,wi,wy,yO,ka,wz,yD,qx,kS,yk,wg,wC,qy,wt,wy,uz,wn,uy,kq,uJ,qR,kS,we,wg,wC,qy,wz,ko,uy,wL,yD,wn,kS,yk,wF,uP,uc,kw,yH,uX,uc,yb,wM,wN,ua,wh,yg,wg,wC,qy,yk,yA,kG,ku,kw,ui,wB,qd,uy,wL,yH,uX,yk,yb,wM,wB,yO,qo,wq,uK,qU,kZ,wE,wX,wk,uB].flatten
end Go.Proofs.YtifploedaacedaaGreatDoorE
namespace Go.Proofs.YtifploedaacedaaGreatDoorE
set_option maxRecDepth 100000
open Go Go.E Go.Proofs
def JD:List UInt8:=[105,108,108,101,103,97,108]
def BQ:List UInt8:=[32,115,101,113,61,106,109,112,32,116,111,61]
def Rz (lG:Nat) (labels:List (List UInt8)):Nat→Nat→List UInt8
 | 0,_=>[]
 | k+1,i=>(BQ++(if lG≤i∧i-lG<labels.length then labels.getD (i-lG) [] else JD)++[10])++Rz lG labels k (i+1)
def J8 (name:List UInt8) (lG:Nat) (labels:List (List UInt8)):List UInt8:=name++[58]++Rz lG labels 64 0
def Hq:List (List UInt8):=[[105,108,108,101,103,97,108],[104,97,108,116],[110,111,112],[114,101,105],[98,112,116],[114,101,116],[114,115,98],[98,115,98],[98,114],[98,99,99],[106,115,98],[106,117,109,112],[111,110,101],[111,110,101],[116,119,111],[116,119,111],[116,115,116],[112,97,105,114],[99,118,116],[99,118,116],[109,111,118,97],[112,117,115,104,97],[112,117,115,104,108],[97,115,104],[114,111,116],[98,108,98],[98,98],[97,111,98],[115,111,98],[101,120,116],[105,110,115],[99,97,108,108,115],[112,117,115,104,114],[112,111,112,114],[109,111,118,112,115,108],[98,105,115],[98,105,99],[99,104,109,107],[109,116,112,114],[109,102,112,114],[109,111,118,99,51],[109,111,118,99,53],[99,109,112,99,51],[99,109,112,99,53],[108,111,99,99],[108,111,99,99]]
def J7:List (List UInt8):=[[109,111,118,99,51,115],[109,111,118,99,53,115],[99,109,112,99,51,115],[99,109,112,99,53,115],[108,111,99,99,115],[115,107,112,99,115]]
def XE:List UInt8:=[59,32,119,104,101,114,101,32,116,104,101,32,99,108,97,115,115,101,115,32,97,114,101,32,100,111,110,101,44,32,97,110,100,32,116,104,101,32,115,116,114,105,110,103,115,39,32,115,116,101,112,115,10]
def zqa:List UInt8:=XE++J8 [101,120,101,99] 0 Hq++J8 [115,116,101,112,115] 40 J7
def Rl:List (List UInt8):=[Vd,zqa,Vb,Va,U9,U8,U7,U6,U5]
def NU:List UInt8:=Rl.flatten
end Go.Proofs.YtifploedaacedaaGreatDoorE
namespace Go.Proofs.YtifploedaacedaaGreatDoorE
set_option maxRecDepth 100000
open Go Go.E Go.Proofs
def zv7:List (List UInt8):=[[110,111,110,101],[109,111,118],[110,111,116],[110,101,103],[105,110,99],[100,101,99],[97,100,100],[115,117,98],[97,100,100,99],[115,117,98,99],[109,117,108],[100,105,118],[111,114],[98,105,99],[120,111,114],[97,110,100],[99,109,112],[116,101,115,116],[99,108,101,97,114],[115,120,98],[115,120,119],[122,120,98],[122,120,119],[115,104,108],[115,104,114],[97,115,104],[114,111,116],[111,112],[115,120,111],[101,120,116],[105,110,115],[99,118,116]]
theorem zv8:pieces 32 Xw=zv7:=by kernel_rfl
def XD:List (List UInt8):=[[114,48],[114,49],[114,50],[114,51],[114,52],[114,53],[114,54],[114,55],[114,56],[114,57],[114,49,48],[114,49,49],[114,49,50],[114,49,51],[114,49,52],[114,49,53],[116,48],[116,49],[116,50],[116,51],[116,52],[116,53],[116,54],[116,55],[118,48],[118,49],[118,50],[118,51],[118,52],[118,53],[97,48],[97,49],[97,50],[97,51],[97,52],[97,53],[109,100],[118,97],[112,115,108],[114,110],[114,120],[108,105,116],[122,101,114,111],[118,101,99],[112,48],[112,49],[115,116,97,114,116],[115,99,98,98],[107,115,112],[117,115,112],[100,105,115,112],[111,115,105,122,101],[105,108,101,110],[108,101,118,101,108],[118,99],[97,99],[97,108],[107,108],[99,110,116],[110,112]]
theorem zv9:pieces 32 Hf=XD:=by kernel_rfl
def ztv:List (List UInt8):=[[98,121,116,101],[119,111,114,100],[108,111,110,103],[111,119,110]]
theorem zuv:pieces 32 XC=ztv:=by kernel_rfl
def Nc:List (List UInt8):=[[107,101,101,112],[115,101,116],[115,101,116,107]]
theorem zxg:pieces 32 LD=Nc:=by kernel_rfl
def zwa:List (List UInt8):=[[110,111,110,101],[114,100],[119,114],[112,114,111,98,101],[98,108,100],[98,115,116],[98,112,117,116],[98,103,101,116],[98,99,108,114],[105,102],[114,100,112],[107,115,116],[114,111,119],[117,110,114,111,119],[114,111,119,97],[102,108,117,115,104]]
theorem zwb:pieces 32 Xv=zwa:=by kernel_rfl
def zwc:List (List UInt8):=[[110,101,120,116],[106,109,112],[99,106],[99,97,108,108],[114,101,116],[115,112,101,99],[109,111,100,101],[101,110,100]]
theorem zwd:pieces 32 Xu=zwc:=by kernel_rfl
def ztw:List (List UInt8):=[[97,108,119,97,121,115],[122],[110,122],[110,101,103],[112,111,115],[99],[110,99],[117,115,101,114],[107,101,114,110,101,108],[102,112,100],[110,111,102,112,100],[116,97,107,101,110],[109,97,116,99,104],[107,49],[107,50],[107,51],[108,97,115,116,114,101,103],[102],[114,101,97,100,115],[105,110,100,101,120],[100,105,118],[108,101,115,115,97,108,117],[97,108,117,49],[115,116,114,105,110,103],[110,111,105,110,100,101,120],[110,111,114,101,97,100,115],[111,118,101,114]]
theorem zuw:pieces 32 XB=ztw:=by kernel_rfl
def ztx:List (List UInt8):=[[110,111,110,101],[115,116,101,112],[117,110,100,111],[115,101,116,102,112,100],[99,108,114,102,112,100],[114,97,105,115,101],[108,97,116,99,104,107],[108,97,116,99,104,120],[109,116,112,114],[109,102,112,114],[101,110,116,101,114],[112,117,116,112,115,108],[104,97,108,116],[98,97,99,107],[100,101,99,111,100,101],[115,101,108],[115,101,108,107],[111,119,110,108,97,115,116],[112,105,99,107],[112,105,99,107,116,111,112],[112,97,114,97,109,115],[99,111,117,110,116]]
theorem zux:pieces 32 XA=ztx:=by kernel_rfl
def Z9 (f:List UInt8):List (List UInt8):=
 if f=[97,108,117] then zv7 else
 if f=[97] then XD else
 if f=[98] then XD else
 if f=[100] then XD else
 if f=[115,105,122,101] then ztv else
 if f=[99,99] then Nc else
 if f=[109,101,109] then zwa else
 if f=[115,101,113] then zwc else
 if f=[99,111,110,100] then ztw else
 if f=[109,105,115,99] then ztx else
 []
theorem zwe (f:List UInt8):Z9 f=namesT f:=by
 unfold Z9 namesT
 rw [zv8,zv9,zuv,zxg,zwb,zwd,zuw,zux]
def PY (l:vJ) (f:List UInt8) (v:Val):Option Int:=
 if v.nm=[] then some v.x else match (Z9 f).findIdx? (fun x=>decide (x=v.nm)) with
  | some k=>some ((k:Int)+v.x)
  | none=>(xu l v.nm).map (·+v.x)
theorem zyk (l:vJ) (f:List UInt8) (v:Val):PY l f v=Ba l f v:=by
 unfold PY Ba
 by_cases h:v.nm=[]
 ·rw [if_pos h,if_pos h]
 ·rw [if_neg h,if_neg h,zwe]
  unfold inT
  cases (namesT f).findIdx? (fun x=>decide (x=v.nm)) with
  | none=>rfl
  | some k=>
    simp only
    rw [if_pos (by omega)]
def Lu (l:vJ) (w:Wd):List Pr→Wd×Nat
 | []=>(w,0)
 | p::r=>if Ee p.fd=0 then (w,p.col) else match PY l p.fd p.v with
   | none=>(w,p.v.col)
   | some x=>if (pI w p.fd x).2=0 then Lu l (pI w p.fd x).1 r else (w,p.v.col)
theorem zty (l:vJ):∀ (fC:List Pr) (w:Wd),Lu l w fC=ng l w fC
 | [],w=>rfl
 | p::r,w=>by
   unfold Lu ng
   rw [zyk]
   by_cases hb:Ee p.fd=0
   ·rw [if_pos hb,if_pos hb]
   ·rw [if_neg hb,if_neg hb]
    cases Ba l p.fd p.v with
    | none=>rfl
    | some x=>
      simp only
      rw [zty l r]
def Tn (nms:vJ) (N:Nat):List (Nat×fU)→Option (List (Nat×Wd))
 | []=>some []
 | x::r=>match Lu nms ny x.2.fC with
   | (w,0)=>if ((zK (w.getD 8 0) (w.getD 10 0) x.1).any fun t=>decide ((N:Int)<t.1+t.2))=true then none else (Tn nms N r).map ((x.1,w)::·)
   | _=>none
end Go.Proofs.YtifploedaacedaaGreatDoorE
namespace Go.Proofs.YtifploedaacedaaGreatDoorE
set_option maxRecDepth 1000000
open Go Go.E Go.Proofs
def zsi:List (List UInt8):=[[102,101,116,99,104],[111,112,101,114,97,110,100],[98,114,97,110,99,104],[102,97,117,108,116],[105,110,116,101,114,114,117,112,116]]
def zwf (l:Lay):Bool:=Nat.blt 0 (sizeT l)&&(Tn l.nms (sizeT l) l.ni).isSome&&decide (l.ents.map (·.1.nm)=zsi)&&l.ents.all fun e=>match xu l.nms e.1.nm with | none=>false | some x=>decide (0≤x)&&decide (x<(sizeT l:Int))
def MS:Bool:=match Ec NU with
 | .error _=>false
 | .ok xs=>match AP zY xs with
   | .error _=>false
   | .ok l=>zwf l
theorem zuy:MS=true:=by kernel_rfl
end Go.Proofs.YtifploedaacedaaGreatDoorE
namespace Go.Proofs.YtifploedaacedaaGreatDoorE
open Go Go.E Go.Proofs
theorem zn6 (nms:vJ) (N:Nat):∀ (xs:List (Nat×fU)) (ws:List Wd),(Tn nms N xs).isSome=true→∃ ws',AV nms N xs ws=.ok ws'
 | [],ws,_=>⟨ws,rfl⟩
 | x::r,ws,h=>by
   unfold Tn at h
   rw [zty] at h
   unfold AV
   cases he:ng nms ny x.2.fC with
   | mk w c=>
     rw [he] at h
     cases c with
     | succ c=>cases h
     | zero=>
       simp only at h ⊢
       rw [if_neg (by simp)]
       by_cases hr:((zK (w.getD 8 0) (w.getD 10 0) x.1).any fun t=>decide ((N:Int)<t.1+t.2))=true
       ·rw [if_pos hr] at h;cases h
       ·rw [if_neg hr] at h
        rw [if_neg hr]
        refine zn6 nms N r _ ?_
        cases hz:Tn nms N r with
        | none=>rw [hz] at h;cases h
        | some l=>rfl
theorem ztz (nms:vJ) (N:Nat):∀ (xs:List (Val×Nat×Nat)),(xs.all fun e=>match xu nms e.1.nm with | none=>false | some x=>decide (0≤x)&&decide (x<(N:Int)))=true→∃ es,Bj nms N xs=.ok es∧es.map (·.1)=xs.map (·.1.nm)
 | [],_=>⟨[],rfl,rfl⟩
 | e::r,h=>by
   rw [List.all_cons,mX] at h
   obtain ⟨h1,h2⟩:=h
   obtain ⟨es,g1,g2⟩:=ztz nms N r h2
   unfold Bj
   cases hf:xu nms e.1.nm with
   | none=>rw [hf] at h1;cases h1
   | some x=>
     rw [hf] at h1
     simp only [mX,decide_eq_true_eq] at h1
     refine ⟨(e.1.nm,x)::es,?_,by simp [g2]⟩
     simp only
     rw [if_neg (by omega),g1]
theorem zyl:∃ ws es,EM NU=.ok (ws,es)∧0<ws.length∧es.map (·.1)=zsi:=by
 have h:=zuy
 unfold MS at h
 unfold EM
 cases hp:Ec NU with
 | error e=>rw [hp] at h;cases h
 | ok xs=>
   rw [hp] at h
   simp only at h ⊢
   cases hl:AP zY xs with
   | error e=>rw [hl] at h;cases h
   | ok l=>
     rw [hl] at h
     simp only at h ⊢
     unfold zwf at h
     simp only [mX] at h
     obtain ⟨⟨⟨h1,h2⟩,h3⟩,h4⟩:=h
     obtain ⟨ws,g1⟩:=zn6 l.nms (sizeT l) l.ni (List.replicate (sizeT l) ny) h2
     obtain ⟨es,g2,g3⟩:=ztz l.nms (sizeT l) l.ents h4
     refine ⟨ws,es,?_,?_,?_⟩
     ·unfold DL
      rw [g1]
      simp only
      rw [g2]
     ·rw [RU _ _ _ g1,List.length_replicate]
      exact Nat.le_of_ble_eq_true h1
     ·rw [g3]
      exact of_decide_eq_true h3
end Go.Proofs.YtifploedaacedaaGreatDoorE
namespace Go.Proofs.YtifploedaacedaaGreatDoorE
set_option maxRecDepth 20000
open Go Go.E Go.Proofs
noncomputable def zre (cf:fQ) (lf:eX) (st:SS):Option (Value×SS):=
 let st1:SS:=st.new (.cells ([.string ⟨#[105,108,108,101,103,97,108]⟩,.string ⟨#[104,97,108,116]⟩,.string ⟨#[110,111,112]⟩,.string ⟨#[114,101,105]⟩,.string ⟨#[98,112,116]⟩,.string ⟨#[114,101,116]⟩,.string ⟨#[114,115,98]⟩,.string ⟨#[98,115,98]⟩,.string ⟨#[98,114]⟩,.string ⟨#[98,99,99]⟩,.string ⟨#[106,115,98]⟩,.string ⟨#[106,117,109,112]⟩,.string ⟨#[111,110,101]⟩,.string ⟨#[111,110,101]⟩,.string ⟨#[116,119,111]⟩,.string ⟨#[116,119,111]⟩,.string ⟨#[116,115,116]⟩,.string ⟨#[112,97,105,114]⟩,.string ⟨#[99,118,116]⟩,.string ⟨#[99,118,116]⟩,.string ⟨#[109,111,118,97]⟩,.string ⟨#[112,117,115,104,97]⟩,.string ⟨#[112,117,115,104,108]⟩,.string ⟨#[97,115,104]⟩,.string ⟨#[114,111,116]⟩,.string ⟨#[98,108,98]⟩,.string ⟨#[98,98]⟩,.string ⟨#[97,111,98]⟩,.string ⟨#[115,111,98]⟩,.string ⟨#[101,120,116]⟩,.string ⟨#[105,110,115]⟩,.string ⟨#[99,97,108,108,115]⟩,.string ⟨#[112,117,115,104,114]⟩,.string ⟨#[112,111,112,114]⟩,.string ⟨#[109,111,118,112,115,108]⟩,.string ⟨#[98,105,115]⟩,.string ⟨#[98,105,99]⟩,.string ⟨#[99,104,109,107]⟩,.string ⟨#[109,116,112,114]⟩,.string ⟨#[109,102,112,114]⟩,.string ⟨#[109,111,118,99,51]⟩,.string ⟨#[109,111,118,99,53]⟩,.string ⟨#[99,109,112,99,51]⟩,.string ⟨#[99,109,112,99,53]⟩,.string ⟨#[108,111,99,99]⟩,.string ⟨#[108,111,99,99]⟩]) 1)
 some (.slice (some ⟨st.next,0,none⟩) 46 46,st1)
noncomputable abbrev zoB:eX:=lS Tryz.prog Lk0 Tryz.f84 lQ
theorem zoC:Lk0.func 84=some (84,Tryz.f84):=by kernel_rfl
theorem zoD [Sym] (st:SS) {r:Value×SS} (h:zre cc zoB st=some r):cc 84 [] st=some r:=
 mF (li:=lQ) gu gy zoC rfl (fun _=>rfl) (.trans (by kernel_rfl) h)
noncomputable def zsQ (cf:fQ) (lf:eX) (st:SS):Option (Value×SS):=
 let st1:SS:=st.new (.cells ([.string ⟨#[109,111,118,99,51,115]⟩,.string ⟨#[109,111,118,99,53,115]⟩,.string ⟨#[99,109,112,99,51,115]⟩,.string ⟨#[99,109,112,99,53,115]⟩,.string ⟨#[108,111,99,99,115]⟩,.string ⟨#[115,107,112,99,115]⟩]) 1)
 some (.slice (some ⟨st.next,0,none⟩) 6 6,st1)
noncomputable abbrev zqb:eX:=lS Tryz.prog Lk0 Tryz.f85 lQ
theorem zqc:Lk0.func 85=some (85,Tryz.f85):=by kernel_rfl
theorem zqd [Sym] (st:SS) {r:Value×SS} (h:zsQ cc zqb st=some r):cc 85 [] st=some r:=
 mF (li:=lQ) gu gy zqc rfl (fun _=>rfl) (.trans (by kernel_rfl) h)
def zj2:eu:=⟨[(1,.int .i64),(2,.any),(7,.str),(12,.int .i64)],[(.exit 0,[(7,.str)])]⟩
def zla (n:Nat):Option eu:=cond (Nat.beq n 3) (some zj2) (none)
noncomputable def zn7 (cf:fQ) (lf:eX) (name':ByteArray) (mJ:Int) (nN:Value) (st:SS):Option (Value×SS):=
 (((xE name' ⟨#[58]⟩).bind fun s=>some (.string s)).bind asS).bind fun a=>
 (lf 3 [.int .i64 mJ,nN,.string a,.int .i64 0] st).bind fun b=>
 ((b.2.1[0]?).bind asS).bind fun c=>
 some (.string c,b.2.2)
noncomputable abbrev RY:eX:=lS Tryz.prog Lk0 Tryz.f83 zla
theorem zqe:Lk0.func 83=some (83,Tryz.f83):=by kernel_rfl
theorem zqf [Sym] (name':ByteArray) (mJ:Int) (nN:Value) (st:SS) {r:Value×SS} (h:zn7 cc RY name' mJ nN st=some r):cc 83 [.string name',.int .i64 mJ,nN] st=some r:=
 mF (li:=zla) gu gy zqe rfl (fun _=>rfl) (.trans (by kernel_rfl) h)
noncomputable def zh8 (cf:fQ) (lf:eX) (mJ:Int) (nN:Value) (s':ByteArray) (oW:Int) (st:SS):Option (Nat×List Value×SS):=
 cond (decide (oW<64)) (
 cond (decide (mJ≤oW)) (
 let a:Int:=IntKind.wrap .i64 (oW-mJ)
 ((lenV nN).bind (ay .i64)).bind fun b=>
 cond (decide (a<b)) (
 let c:Int:=IntKind.wrap .i64 (oW-mJ)
 (fK nN c 1).bind fun d=>
 ((st.ld d.1 d.2).bind asS).bind fun e=>
 (((xE ⟨#[32,115,101,113,61,106,109,112,32,116,111,61]⟩ e).bind fun s=>some (.string s)).bind asS).bind fun f=>
 (((xE f ⟨#[10]⟩).bind fun s=>some (.string s)).bind asS).bind fun g=>
 (((xE s' g).bind fun s=>some (.string s)).bind asS).bind fun h=>
 let i:Int:=IntKind.wrap .i64 (oW+1)
 lf 3 [.int .i64 mJ,nN,.string h,.int .i64 i] st) (
 (((xE ⟨#[32,115,101,113,61,106,109,112,32,116,111,61]⟩ ⟨#[105,108,108,101,103,97,108]⟩).bind fun s=>some (.string s)).bind asS).bind fun j=>
 (((xE j ⟨#[10]⟩).bind fun s=>some (.string s)).bind asS).bind fun k=>
 (((xE s' k).bind fun s=>some (.string s)).bind asS).bind fun l=>
 let m:Int:=IntKind.wrap .i64 (oW+1)
 lf 3 [.int .i64 mJ,nN,.string l,.int .i64 m] st)) (
 (((xE ⟨#[32,115,101,113,61,106,109,112,32,116,111,61]⟩ ⟨#[105,108,108,101,103,97,108]⟩).bind fun s=>some (.string s)).bind asS).bind fun n=>
 (((xE n ⟨#[10]⟩).bind fun s=>some (.string s)).bind asS).bind fun o=>
 (((xE s' o).bind fun s=>some (.string s)).bind asS).bind fun p=>
 let q:Int:=IntKind.wrap .i64 (oW+1)
 lf 3 [.int .i64 mJ,nN,.string p,.int .i64 q] st)) (
 some (0,[.string s'],st))
theorem ziD [Sym] (mJ:Int) (nN:Value) (s':ByteArray) (oW:Int) (st:SS) {r:Nat×List Value×SS} (h:zh8 cc RY mJ nN s' oW st=some r):RY 3 [.int .i64 mJ,nN,.string s',.int .i64 oW] st=some r:=
 oM gu gy (key:=3) (I:=zj2) rfl (by kernel_rfl) (by kernel_rfl) rfl rfl (.trans (by kernel_rfl) h)
noncomputable def zng (cf:fQ) (lf:eX) (st:SS):Option (Value×SS):=
 (cf 84 [] st).bind fun a=>
 (cf 83 [.string ⟨#[101,120,101,99]⟩,.int .i64 0,a.1] a.2).bind fun b=>
 ((some b.1).bind asS).bind fun c=>
 (((xE ⟨#[59,32,119,104,101,114,101,32,116,104,101,32,99,108,97,115,115,101,115,32,97,114,101,32,100,111,110,101,44,32,97,110,100,32,116,104,101,32,115,116,114,105,110,103,115,39,32,115,116,101,112,115,10]⟩ c).bind fun s=>some (.string s)).bind asS).bind fun d=>
 (cf 85 [] b.2).bind fun e=>
 (cf 83 [.string ⟨#[115,116,101,112,115]⟩,.int .i64 40,e.1] e.2).bind fun f=>
 ((some f.1).bind asS).bind fun g=>
 (((xE d g).bind fun s=>some (.string s)).bind asS).bind fun h=>
 some (.string h,f.2)
noncomputable abbrev zpE:eX:=lS Tryz.prog Lk0 Tryz.f54 lQ
theorem zpF:Lk0.func 54=some (54,Tryz.f54):=by kernel_rfl
theorem zpG [Sym] (st:SS) {r:Value×SS} (h:zng cc zpE st=some r):cc 54 [] st=some r:=
 mF (li:=lQ) gu gy zpF rfl (fun _=>rfl) (.trans (by kernel_rfl) h)
noncomputable def zkv (cf:fQ) (lf:eX) (st:SS):Option (Value×SS):=
 (cf 54 [] st).bind fun a=>
 ((some a.1).bind asS).bind fun b=>
 let c:SS:=a.2.new (.cells ([.string ⟨⟨Vd⟩⟩,.string b,.string ⟨⟨Vb⟩⟩,.string ⟨⟨Va⟩⟩,.string ⟨⟨U9⟩⟩,.string ⟨⟨U8⟩⟩,.string ⟨⟨U7⟩⟩,.string ⟨⟨U6⟩⟩,.string ⟨⟨U5⟩⟩]) 1)
 some (.slice (some ⟨a.2.next,0,none⟩) 9 9,c)
noncomputable abbrev zlb:eX:=lS Tryz.prog Lk0 Tryz.f27 lQ
theorem zqg:Lk0.func 27=some (27,Tryz.f27):=by kernel_rfl
theorem zqh [Sym] (st:SS) {r:Value×SS} (h:zkv cc zlb st=some r):cc 27 [] st=some r:=
 mF (li:=lQ) gu gy zqg rfl (fun _=>rfl) (.trans (by kernel_rfl) h)
def zjx:eu:=⟨[(1,.str),(4,.any),(5,.int .i64),(6,.int .i64)],[(.exit 0,[(1,.str)])]⟩
def zj3 (n:Nat):Option eu:=cond (Nat.beq n 3) (some zjx) (none)
noncomputable def znh (cf:fQ) (lf:eX) (st:SS):Option (Value×SS):=
 (cf 27 [] st).bind fun a=>
 ((lenV a.1).bind (ay .i64)).bind fun b=>
 (lf 3 [.string ⟨#[]⟩,a.1,.int .i64 b,.int .i64 0] a.2).bind fun c=>
 ((c.2.1[0]?).bind asS).bind fun d=>
 some (.string d,c.2.2)
noncomputable abbrev Uu:eX:=lS Tryz.prog Lk0 Tryz.f29 zj3
theorem zpH:Lk0.func 29=some (29,Tryz.f29):=by kernel_rfl
theorem zpI [Sym] (st:SS) {r:Value×SS} (h:znh cc Uu st=some r):cc 29 [] st=some r:=
 mF (li:=zj3) gu gy zpH rfl (fun _=>rfl) (.trans (by kernel_rfl) h)
noncomputable def zhG (cf:fQ) (lf:eX) (s':ByteArray) (mD:Value) (Dk:Int) (zO:Int) (st:SS):Option (Nat×List Value×SS):=
 cond (decide (zO<Dk)) (
 (fK mD zO 1).bind fun a=>
 ((st.ld a.1 a.2).bind asS).bind fun b=>
 (((xE s' b).bind fun s=>some (.string s)).bind asS).bind fun c=>
 let d:Int:=IntKind.wrap .i64 (zO+1)
 lf 3 [.string c,mD,.int .i64 Dk,.int .i64 d] st) (
 some (0,[.string s'],st))
theorem zis [Sym] (s':ByteArray) (mD:Value) (Dk:Int) (zO:Int) (st:SS) {r:Nat×List Value×SS} (h:zhG cc Uu s' mD Dk zO st=some r):Uu 3 [.string s',mD,.int .i64 Dk,.int .i64 zO] st=some r:=
 oM gu gy (key:=3) (I:=zjx) rfl (by kernel_rfl) (by kernel_rfl) rfl rfl (.trans (by kernel_rfl) h)
noncomputable def zqS (cf:fQ) (lf:eX) (st:SS):Option (Value×SS):=
 let a:SS:=st.new (.cells [.slice none 0 0,.slice none 0 0] 0)
 (cf 29 [] a).bind fun b=>
 ((some b.1).bind asS).bind fun c=>
 (cf 16 [.string c] b.2).bind fun d=>
 (fM d.1 0).bind fun e=>
 (fM d.1 1).bind fun f=>
 ((fM d.1 2).bind (ay .i64)).bind fun g=>
 let h:SS:=d.2.new (.cells [.slice none 0 0,.slice none 0 0] 0)
 let i:SS:=h.new (.cells [.int .i64 0,.int .i64 0] 0)
 (i.eH d.2.next 0 2 e).bind fun j=>
 (j.eH h.next 0 2 f).bind fun k=>
 (k.eF d.2.next 0 2).bind fun l=>
 (k.eH st.next 0 2 l).bind fun m=>
 (m.fH st.next 0 2).bind fun n=>
 some (.tuple #[n,.int .i64 g],m)
noncomputable abbrev zsk:eX:=lS Tryz.prog Lk0 Tryz.f28 lQ
theorem zsl:Lk0.func 28=some (28,Tryz.f28):=by kernel_rfl
theorem zsm [Sym] (st:SS) {r:Value×SS} (h:zqS cc zsk st=some r):cc 28 [] st=some r:=
 mF (li:=lQ) gu gy zsl rfl (fun _=>rfl) (.trans (by kernel_rfl) h)
noncomputable def zrf (cf:fQ) (lf:eX) (st:SS):Option (Value×SS):=
 let st1:SS:=st.new (.cells ([.string ⟨#[102,101,116,99,104]⟩,.string ⟨#[111,112,101,114,97,110,100]⟩,.string ⟨#[98,114,97,110,99,104]⟩,.string ⟨#[102,97,117,108,116]⟩,.string ⟨#[105,110,116,101,114,114,117,112,116]⟩]) 1)
 some (.slice (some ⟨st.next,0,none⟩) 5 5,st1)
noncomputable abbrev zoE:eX:=lS Tryz.prog Lk0 Tryz.f33 lQ
theorem zoF:Lk0.func 33=some (33,Tryz.f33):=by kernel_rfl
theorem zoG [Sym] (st:SS) {r:Value×SS} (h:zrf cc zoE st=some r):cc 33 [] st=some r:=
 mF (li:=lQ) gu gy zoF rfl (fun _=>rfl) (.trans (by kernel_rfl) h)
noncomputable def zhQ (cf:fQ) (lf:eX) (st:SS):Option (Value×SS):=
 (cf 33 [] st).bind fun a=>
 ((lenV a.1).bind (ay .i64)).bind fun b=>
 cond (decide (b=5)) (
 (fK a.1 0 1).bind fun c=>
 ((a.2.ld c.1 c.2).bind asS).bind fun d=>
 cond (fA d ⟨#[102,101,116,99,104]⟩) (
 (fK a.1 4 1).bind fun e=>
 ((a.2.ld e.1 e.2).bind asS).bind fun f=>
 some (.bool (fA f ⟨#[105,110,116,101,114,114,117,112,116]⟩),a.2)) (
 some (.bool false,a.2))) (
 some (.bool false,a.2))
noncomputable abbrev zkw:eX:=lS Tryz.prog Lk0 Tryz.f26 lQ
theorem zkx:Lk0.func 26=some (26,Tryz.f26):=by kernel_rfl
theorem zky [Sym] (st:SS) {r:Value×SS} (h:zhQ cc zkw st=some r):cc 26 [] st=some r:=
 mF (li:=lQ) gu gy zkx rfl (fun _=>rfl) (.trans (by kernel_rfl) h)
end Go.Proofs.YtifploedaacedaaGreatDoorE
namespace Go.Proofs.YtifploedaacedaaGreatDoorE
open Go Go.E Go.Proofs
def strRow (l:List UInt8):List Value:=[.string (mkS l)]
theorem TP {st:SS} {row:List Value} {n:Nat} (h:row.length=n) (h0:0<n):Own st.next (st.new (.cells row 1)) (.slice (some ⟨st.next,0,none⟩) n n) row 1 n:=
 ⟨by omega,.inr ⟨st.next,rfl,h0,SS.fV,fF _,by simp⟩⟩
theorem NW {st:SS} {v:Value} {ls:List (List UInt8)} (hv:Rd st v (ak strRow ls) 1 ls.length) {i:Nat} {x:List UInt8} (hx:ls[i]?=some x):∃ p,fK v (i:Int) 1=some p∧st.ld p.1 p.2=some (.string (mkS x)):=by
 have hi:i<ls.length:=(List.getElem?_eq_some_iff.1 hx).1
 obtain ⟨p,h1,_,h3⟩:=hv.load (j:=(i:Int)) (by omega) (by omega) (xw (f:=strRow) (z:=1) (fun _=>rfl) ls i x hx) rfl
 exact ⟨p,h1,h3 0 (by omega)⟩
theorem zuz [Sym] (st:SS):cc 84 [] st=some (.slice (some ⟨st.next,0,none⟩) 46 46,st.new (.cells (ak strRow Hq) 1)):=zoD st rfl
theorem zxh [Sym] (st:SS):cc 85 [] st=some (.slice (some ⟨st.next,0,none⟩) 6 6,st.new (.cells (ak strRow J7) 1)):=zqd st rfl
theorem zuA [Sym] {st:SS} {v:Value} {ls:List (List UInt8)} {lG:Nat} (hv:Rd st v (ak strRow ls) 1 ls.length) (hf:lG≤64) (hls:∀ x∈ls,x.length≤100):∀ (k i:Nat) (s:List UInt8),64=k+i→s.length+k*200≤100000→
  RY 3 [.int .i64 lG,v,.string (mkS s),.int .i64 i] st=some (0,[.string (mkS (s++Rz lG ls k i))],st):=by
 intro k
 induction k with
 | zero=>
   intro i s hk hs
   have h:¬ (i:Int)<64:=by omega
   refine ziD _ _ _ _ st ?_
   simp only [zh8,bg h,dn,Rz,List.append_nil]
 | succ k ih=>
   intro i s hk hs
   have h:(i:Int)<64:=by omega
   have hw:=ru (i:=i) (by omega)
   have go:∀ l:List UInt8,l.length≤100→xE ⟨#[32,115,101,113,61,106,109,112,32,116,111,61]⟩ (mkS l)=some (mkS (BQ++l))∧xE (mkS (BQ++l)) ⟨#[10]⟩=some (mkS (BQ++l++[10]))∧xE (mkS s) (mkS (BQ++l++[10]))=some (mkS (s++(BQ++l++[10])))∧
     RY 3 [.int .i64 lG,v,.string (mkS (s++(BQ++l++[10]))),.int .i64 ((i+1:Nat):Int)] st=some (0,[.string (mkS (s++((BQ++l++[10])++Rz lG ls k (i+1))))],st):=by
    intro l hl
    have hj:BQ.length=12:=rfl
    have l1:(BQ++l).length≤112:=by rw [List.length_append,hj];omega
    have l2:(BQ++l++[10]).length≤113:=by rw [List.length_append];simp only [List.length_cons,List.length_nil];omega
    have e1:xE ⟨#[32,115,101,113,61,106,109,112,32,116,111,61]⟩ (mkS l)=some (mkS (BQ++l)):=JZ (a:=BQ) (by omega)
    have e2:xE (mkS (BQ++l)) ⟨#[10]⟩=some (mkS (BQ++l++[10])):=JZ (b:=[10]) (by simp only [List.length_cons,List.length_nil];omega)
    have e3:=JZ (a:=s) (b:=BQ++l++[10]) (by omega)
    have e4:=ih (i+1) (s++(BQ++l++[10])) (by omega) (by rw [List.length_append];omega)
    rw [List.append_assoc s] at e4
    exact ⟨e1,e2,e3,e4⟩
   refine ziD _ _ _ _ st ?_
   simp only [zh8,zdt h,cu,hw]
   unfold Rz
   by_cases h1:lG≤i
   ·have h1':(lG:Int)≤(i:Int):=by omega
    have hsub:IntKind.wrap .i64 ((i:Int)-(lG:Int))=((i-lG:Nat):Int):=by rw [wrap64 (by omega) (by omega)];omega
    simp only [zdt h1',cu,hsub,hv.len,bf,eP]
    by_cases h2:i-lG<ls.length
    ·have h2':((i-lG:Nat):Int)<(ls.length:Int):=by omega
     obtain ⟨x,hx⟩:∃ x,ls[i-lG]?=some x:=⟨_,mW h2⟩
     obtain ⟨p,p1,p2⟩:=NW hv hx
     obtain ⟨e1,e2,e3,e4⟩:=go x (hls x (xH hx))
     have hg:(if lG≤i∧i-lG<ls.length then ls.getD (i-lG) [] else JD)=x:=by rw [if_pos ⟨h1,h2⟩,List.getD_eq_getElem?_getD,hx];rfl
     rw [hg]
     simp only [zdt h2',cu,p1,p2,bf,fP,e1,e2,e3]
     exact e4
    ·have h2':¬ ((i-lG:Nat):Int)<(ls.length:Int):=by omega
     obtain ⟨e1,e2,e3,e4⟩:=go JD (by decide)
     have hg:(if lG≤i∧i-lG<ls.length then ls.getD (i-lG) [] else JD)=JD:=if_neg (fun hh=>h2 hh.2)
     rw [hg]
     have e1':xE ⟨#[32,115,101,113,61,106,109,112,32,116,111,61]⟩ ⟨#[105,108,108,101,103,97,108]⟩=some (mkS (BQ++JD)):=e1
     simp only [bg h2',dn,bf,fP,e1',e2,e3]
     exact e4
   ·have h1':¬ (lG:Int)≤(i:Int):=by omega
    obtain ⟨e1,e2,e3,e4⟩:=go JD (by decide)
    have hg:(if lG≤i∧i-lG<ls.length then ls.getD (i-lG) [] else JD)=JD:=if_neg (fun hh=>h1 hh.1)
    rw [hg]
    have e1':xE ⟨#[32,115,101,113,61,106,109,112,32,116,111,61]⟩ ⟨#[105,108,108,101,103,97,108]⟩=some (mkS (BQ++JD)):=e1
    simp only [bg h1',dn,bf,fP,e1',e2,e3]
    exact e4
theorem zsn [Sym] {st:SS} {v:Value} {name:List UInt8} {ls:List (List UInt8)} {lG:Nat} (hv:Rd st v (ak strRow ls) 1 ls.length) (hf:lG≤64) (hls:∀ x∈ls,x.length≤100) (hn:name.length≤100):
  cc 83 [.string (mkS name),.int .i64 lG,v] st=some (.string (mkS (J8 name lG ls)),st):=by
 refine zqf _ _ _ st ?_
 have e1:xE (mkS name) ⟨#[58]⟩=some (mkS (name++[58])):=JZ (b:=[58]) (by simp only [List.length_cons,List.length_nil];omega)
 have e2:=zuA hv hf hls 64 0 (name++[58]) rfl (by rw [List.length_append];simp only [List.length_cons,List.length_nil];omega)
 have e2':RY 3 [.int .i64 lG,v,.string (mkS (name++[58])),.int .i64 0] st=_:=e2
 simp only [zn7,e1,e2',bf,fP,iZ]
 rfl
theorem zxi:zqa.length≤5000∧(J8 [101,120,101,99] 0 Hq).length≤5000∧(J8 [115,116,101,112,115] 40 J7).length≤5000:=by decide+kernel
theorem zwg [Sym] (st:SS):∃ s',cc 54 [] st=some (.string (mkS zqa),s')∧Ext st s':=by
 have h1:=zuz st
 have o1:Own st.next (st.new (.cells (ak strRow Hq) 1)) (.slice (some ⟨st.next,0,none⟩) 46 46) (ak strRow Hq) 1 46:=TP rfl (by omega)
 have x1:Ext st (st.new (.cells (ak strRow Hq) 1)):=(Ext.refl _).new _
 generalize st.new (.cells (ak strRow Hq) 1)=s1 at*
 have h2:=zsn (name:=[101,120,101,99]) (ls:=Hq) (lG:=0) o1.rd (by omega) (by decide) (by decide)
 have h3:=zxh s1
 have o2:Own s1.next (s1.new (.cells (ak strRow J7) 1)) (.slice (some ⟨s1.next,0,none⟩) 6 6) (ak strRow J7) 1 6:=TP rfl (by omega)
 have x2:Ext s1 (s1.new (.cells (ak strRow J7) 1)):=(Ext.refl _).new _
 generalize s1.new (.cells (ak strRow J7) 1)=s2 at*
 have h4:=zsn (name:=[115,116,101,112,115]) (ls:=J7) (lG:=40) o2.rd (by omega) (by decide) (by decide)
 have h2':cc 83 [.string ⟨#[101,120,101,99]⟩,.int .i64 0,.slice (some ⟨st.next,0,none⟩) 46 46] s1=_:=h2
 have h4':cc 83 [.string ⟨#[115,116,101,112,115]⟩,.int .i64 40,.slice (some ⟨s1.next,0,none⟩) 6 6] s2=_:=h4
 obtain ⟨l0,l1,l2⟩:=zxi
 have lt:XE.length≤5000:=by decide
 have e1:=JZ (a:=XE) (b:=J8 [101,120,101,99] 0 Hq) (by omega)
 have e1':xE ⟨#[59,32,119,104,101,114,101,32,116,104,101,32,99,108,97,115,115,101,115,32,97,114,101,32,100,111,110,101,44,32,97,110,100,32,116,104,101,32,115,116,114,105,110,103,115,39,32,115,116,101,112,115,10]⟩ (mkS (J8 [101,120,101,99] 0 Hq))=_:=e1
 have e2:=JZ (a:=XE++J8 [101,120,101,99] 0 Hq) (b:=J8 [115,116,101,112,115] 40 J7) (by rw [List.length_append];omega)
 refine ⟨s2,zpG st ?_,x1.trans x2⟩
 simp only [zng,h1,h2',h3,h4',bf,fP,e1',e2]
 rfl
theorem zqT [Sym] (st:SS):∃ s' v,cc 27 [] st=some (v,s')∧Ext st s'∧Own st.next s' v (ak strRow Rl) 1 9:=by
 obtain ⟨s1,h1,x1⟩:=zwg st
 have h2:zkv cc zlb st=some (.slice (some ⟨s1.next,0,none⟩) 9 9,s1.new (.cells (ak strRow Rl) 1)):=by
  simp only [zkv,h1,bf,fP]
  rfl
 exact ⟨_,_,zqh st h2,x1.new _,(TP (n:=9) rfl (by omega)).low x1.next⟩
theorem zsR [Sym] {st:SS} {v:Value} {ls:List (List UInt8)} (hv:Rd st v (ak strRow ls) 1 ls.length) (hm:ls.length≤1000):∀ (k i:Nat) (s:List UInt8),ls.length=k+i→s.length+(ls.drop i).flatten.length≤1000000→
  Uu 3 [.string (mkS s),v,.int .i64 ls.length,.int .i64 i] st=some (0,[.string (mkS (s++(ls.drop i).flatten))],st):=by
 intro k
 induction k with
 | zero=>
   intro i s hk hs
   have h:¬ (i:Int)<(ls.length:Int):=by omega
   refine zis _ _ _ _ st ?_
   simp only [zhG,bg h,dn,List.drop_of_length_le (show ls.length≤i by omega),List.flatten_nil,List.append_nil]
 | succ k ih=>
   intro i s hk hs
   have h:(i:Int)<(ls.length:Int):=by omega
   have hw:=ru (i:=i) (by omega)
   obtain ⟨x,hx⟩:∃ x,ls[i]?=some x:=⟨_,mW (by omega)⟩
   obtain ⟨p,p1,p2⟩:=NW hv hx
   rw [drop_cons hx,List.flatten_cons] at hs ⊢
   rw [List.length_append] at hs
   have e1:=JZ (a:=s) (b:=x) (by omega)
   have e2:=ih (i+1) (s++x) (by omega) (by rw [List.length_append];omega)
   rw [List.append_assoc] at e2
   refine zis _ _ _ _ st ?_
   simp only [zhG,zdt h,cu,p1,p2,bf,fP,e1,hw]
   exact e2
theorem zqU:NU.length≤65536:=Nat.le_of_ble_eq_true (by kernel_rfl)
theorem zwh [Sym] (st:SS):∃ s',cc 29 [] st=some (.string (mkS NU),s')∧Ext st s':=by
 obtain ⟨s1,v,h1,x1,o1⟩:=zqT st
 have h2:=zsR (ls:=Rl) o1.rd (by decide) 9 0 [] rfl (by
  have:=zqU
  unfold NU at this
  rw [List.drop_zero,List.length_nil]
  omega)
 have h2':Uu 3 [.string ⟨#[]⟩,v,.int .i64 ((9:Nat):Int),.int .i64 0] s1=some (0,[.string (mkS NU)],s1):=h2
 refine ⟨s1,zpI st ?_,x1⟩
 simp only [znh,h1,bf,o1.len,eP,h2',iZ,fP]
def Af:List (List UInt8):=[[102,101,116,99,104],[111,112,101,114,97,110,100],[98,114,97,110,99,104],[102,97,117,108,116],[105,110,116,101,114,114,117,112,116]]
theorem zpJ [Sym] (st:SS):∃ s' v,cc 33 [] st=some (v,s')∧Ext st s'∧Own st.next s' v (ak strRow Af) 1 5:=
 ⟨st.new (.cells (ak strRow Af) 1),.slice (some ⟨st.next,0,none⟩) 5 5,zoG st rfl,(Ext.refl _).new _,TP rfl (by omega)⟩
theorem zxj [Sym] (st:SS):∃ s',cc 26 [] st=some (.bool true,s')∧Ext st s':=by
 obtain ⟨s1,v,h1,x1,o1⟩:=zpJ st
 obtain ⟨p,p1,p2⟩:=NW o1.rd (ls:=Af) (i:=0) rfl
 obtain ⟨q,q1,q2⟩:=NW o1.rd (ls:=Af) (i:=4) rfl
 have p1':fK v 0 1=some p:=p1
 have q1':fK v 4 1=some q:=q1
 refine ⟨s1,zky st ?_,x1⟩
 simp only [zhQ,h1,bf,o1.len,eP,p1',p2,q1',q2,fP]
 rfl
end Go.Proofs.YtifploedaacedaaGreatDoorE
namespace Go.Proofs.YtifploedaacedaaGreatDoorE
open Go Go.E Go.Proofs
structure Jp [Sym] (t:List UInt8):Prop where
 len:t.length≤65536
 src:∀ st:SS,∃ s',cc 29 [] st=some (.string (mkS t),s')∧Ext st s'
theorem PD {s3:SS} (hll:s3.lim≤s3.next) (wv ev:Value) (e:Nat×Nat) (w1:one wv=true) (w2:one ev=true):∃ s9 s10,((s3.new (.cells NN 0)).new (.cells Z2 0)).eH s3.next 0 2 (CW wv ev)=some s9∧s9.eH (s3.next+1) 0 2 (rH e)=some s10∧Ext s3 s10∧At s10 s3.next [wv,ev]:=by
 have y1:Ext s3 (s3.new (.cells NN 0)):=(Ext.refl _).new _
 have y2:Ext (s3.new (.cells NN 0)) ((s3.new (.cells NN 0)).new (.cells Z2 0)):=(Ext.refl _).new _
 have q1:At ((s3.new (.cells NN 0)).new (.cells Z2 0)) s3.next NN:=(At.new hll NN).ext y2
 have q2:At ((s3.new (.cells NN 0)).new (.cells Z2 0)) (s3.next+1) Z2:=At.new (st:=s3.new (.cells NN 0)) (y1.ll hll) Z2
 obtain ⟨s9,e9,a9,m9,n9⟩:=q1.eH (k:=0) (n:=2) (v:=CW wv ev) (vs:=[wv,ev]) rfl rfl (by simp [w1,w2]) (row':=[wv,ev]) rfl
 obtain ⟨s10,e10,a10,m10,n10⟩:=(q2.mod m9 (by simp)).eH (k:=0) (n:=2) (v:=rH e) (vs:=[.int .i64 e.1,.int .i64 e.2]) rfl rfl rfl (row':=[.int .i64 e.1,.int .i64 e.2]) rfl
 exact ⟨s9,s10,e9,e10,pO (pO (y1.trans y2) m9 (fF _)) m10 (by omega),a9.mod m10 (by simp)⟩
theorem zym [Sym] {t:List UInt8} (hs:Jp t) {ws:List Wd} {es:List (List UInt8×Int)} (ha:EM t=.ok (ws,es)) {st:SS} (hg:Gd st) (hl:st.lim≤st.next):
  ∃ s' wv ev,cc 28 [] st=some (.tuple #[CW wv ev,.int .i64 0],s')∧Ext st s'∧Own st.next s' wv (ak CO ws) 1 ws.length∧Own st.next s' ev (ak oU es) 2 es.length:=by
 have x1:Ext st (st.new (.cells NN 0)):=(Ext.refl _).new _
 have a1:At (st.new (.cells NN 0)) st.next NN:=At.new hl NN
 have hn1:(st.new (.cells NN 0)).next=st.next+1:=rfl
 obtain ⟨s1,hs1⟩:∃ s1,st.new (.cells NN 0)=s1:=⟨_,rfl⟩
 have he1:st.new (.cells [.slice none 0 0,.slice none 0 0] 0)=s1:=hs1
 rw [hs1] at x1 a1 hn1
 obtain ⟨s2,h2,x2⟩:=hs.src s1
 have JI:=x1.trans x2
 have h3:=QL (hg.ext JI) (JI.ll hl) (mkS t) (by rw [Oo];exact hs.len)
 rw [vW,ha] at h3
 obtain ⟨s3,wv,ev,c3,x3,o1,o2⟩:=h3
 have KD:=JI.trans x3
 obtain ⟨s9,s10,e9,e10,x10,a10⟩:=PD (KD.ll hl) wv ev (0,0) (Own.cell o1).2 (Own.cell o2).2
 have l12:s10.eF s3.next 0 2=some (.agg [wv,ev].toArray):=a10.eF rfl
 have a1':At s10 st.next NN:=a1.ext (x2.trans (x3.trans x10))
 obtain ⟨s13,e13,G5,m13,n13⟩:=a1'.eH (k:=0) (n:=2) (v:=.agg [wv,ev].toArray) (vs:=[wv,ev]) (lU _) rfl (by simp [(Own.cell o1).2,(Own.cell o2).2]) (row':=[wv,ev]) rfl
 have xC:s13.fH st.next 0 2=some (.agg [wv,ev].toArray):=G5.fH rfl
 have t0:∀ (a b c:Value),fM (.tuple #[a,b,c]) 0=some a:=fun _ _ _=>rfl
 have t1:∀ (a b c:Value),fM (.tuple #[a,b,c]) 1=some b:=fun _ _ _=>rfl
 have t2:∀ (a b c:Value),fM (.tuple #[a,b,c]) 2=some c:=fun _ _ _=>rfl
 have hlt:st.next<s2.next:=by have:=x2.next;omega
 refine ⟨s13,wv,ev,zsm st ?_,pO (KD.trans x10) m13 (fF _),?_,?_⟩
 ·simp only [zqS,he1,h2,bf,fP,c3,t0,t1,t2,eP,SS.rQ,e9,e10,l12,e13,xC]
  rfl
 ·exact ((o1.ext x10).mod m13 fun j k l q e=>by
   obtain ⟨_,⟨e',_⟩ | ⟨i,e',_,_,hb,_⟩⟩:=o1
   ·rw [e'] at e;cases e
   ·rw [e'] at e;cases e;simp;omega).low (by omega)
 ·exact ((o2.ext x10).mod m13 fun j k l q e=>by
   obtain ⟨_,⟨e',_⟩ | ⟨i,e',_,_,hb,_⟩⟩:=o2
   ·rw [e'] at e;cases e
   ·rw [e'] at e;cases e;simp;omega).low (by omega)
end Go.Proofs.YtifploedaacedaaGreatDoorE
namespace Go.Proofs.YtifploedaacedaaGreatDoorE
set_option maxRecDepth 20000
open Go Go.E Go.Proofs
noncomputable def zld (cf:fQ) (lf:eX) (st:SS):Option (Value×SS):=
 let st1:SS:=st.new (.cells ([.string ⟨#[102,101,116,99,104]⟩,.string ⟨#[111,112,101,114,97,110,100]⟩,.string ⟨#[98,114,97,110,99,104]⟩,.string ⟨#[102,97,117,108,116]⟩,.string ⟨#[105,110,116,101,114,114,117,112,116]⟩]) 1)
 some (.slice (some ⟨st.next,0,none⟩) 5 5,st1)
noncomputable abbrev zjy:eX:=lS Tryz.prog Lk0 Tryz.f32 lQ
theorem zjz:Lk0.func 32=some (32,Tryz.f32):=by kernel_rfl
theorem zjA [Sym] (st:SS) {r:Value×SS} (h:zld cc zjy st=some r):cc 32 [] st=some r:=
 mF (li:=lQ) gu gy zjz rfl (fun _=>rfl) (.trans (by kernel_rfl) h)
def zgt:eu:=⟨[(0,.str),(3,.int .i64)],[(.exit 0,[(0,.str)]),(.ret,[(2,.bool)])]⟩
def zg6 (n:Nat):Option eu:=cond (Nat.beq n 2) (some zgt) (none)
noncomputable def zit (cf:fQ) (lf:eX) (s':ByteArray) (st:SS):Option (Value×SS):=
 (lf 2 [.string s',.int .i64 0] st).bind fun a=>
 cond (Nat.beq a.1 0) (
 ((a.2.1[0]?).bind asS).bind fun b=>
 cond (decide (1≤(b.size:Int))) (
 some (.bool (decide ((b.size:Int)≤24)),a.2.2)) (
 some (.bool false,a.2.2))) (
 ((a.2.1[0]?).bind lF).bind fun c=>
 some (.bool c,a.2.2))
noncomputable abbrev UD:eX:=lS Tryz.prog Lk0 Tryz.f55 zg6
theorem zle:Lk0.func 55=some (55,Tryz.f55):=by kernel_rfl
theorem zlf [Sym] (s':ByteArray) (st:SS) {r:Value×SS} (h:zit cc UD s' st=some r):cc 55 [.string s'] st=some r:=
 mF (li:=zg6) gu gy zle rfl (fun _=>rfl) (.trans (by kernel_rfl) h)
noncomputable def zeB (cf:fQ) (lf:eX) (s':ByteArray) (i':Int) (st:SS):Option (Nat×List Value×SS):=
 cond (decide (i'<(s'.size:Int))) (
 ((zI s' i').bind (ay .u8)).bind fun a=>
 cond (decide (97≤a)) (
 cond (decide (a≤122)) (
 let b:Int:=IntKind.wrap .i64 (i'+1)
 lf 2 [.string s',.int .i64 b] st) (
 cond (decide (65≤a)) (
 cond (decide (a≤90)) (
 let c:Int:=IntKind.wrap .i64 (i'+1)
 lf 2 [.string s',.int .i64 c] st) (
 cond (!(decide (a=95))) (
 cond (decide (a<48)) (
 some (1,[.bool false],st)) (
 cond (decide (57<a)) (
 some (1,[.bool false],st)) (
 cond (decide (i'=0)) (
 some (1,[.bool false],st)) (
 let d:Int:=IntKind.wrap .i64 (i'+1)
 lf 2 [.string s',.int .i64 d] st)))) (
 let e:Int:=IntKind.wrap .i64 (i'+1)
 lf 2 [.string s',.int .i64 e] st))) (
 cond (!(decide (a=95))) (
 cond (decide (a<48)) (
 some (1,[.bool false],st)) (
 cond (decide (57<a)) (
 some (1,[.bool false],st)) (
 cond (decide (i'=0)) (
 some (1,[.bool false],st)) (
 let f:Int:=IntKind.wrap .i64 (i'+1)
 lf 2 [.string s',.int .i64 f] st)))) (
 let g:Int:=IntKind.wrap .i64 (i'+1)
 lf 2 [.string s',.int .i64 g] st)))) (
 cond (decide (65≤a)) (
 cond (decide (a≤90)) (
 let h:Int:=IntKind.wrap .i64 (i'+1)
 lf 2 [.string s',.int .i64 h] st) (
 cond (!(decide (a=95))) (
 cond (decide (a<48)) (
 some (1,[.bool false],st)) (
 cond (decide (57<a)) (
 some (1,[.bool false],st)) (
 cond (decide (i'=0)) (
 some (1,[.bool false],st)) (
 let i:Int:=IntKind.wrap .i64 (i'+1)
 lf 2 [.string s',.int .i64 i] st)))) (
 let j:Int:=IntKind.wrap .i64 (i'+1)
 lf 2 [.string s',.int .i64 j] st))) (
 cond (!(decide (a=95))) (
 cond (decide (a<48)) (
 some (1,[.bool false],st)) (
 cond (decide (57<a)) (
 some (1,[.bool false],st)) (
 cond (decide (i'=0)) (
 some (1,[.bool false],st)) (
 let k:Int:=IntKind.wrap .i64 (i'+1)
 lf 2 [.string s',.int .i64 k] st)))) (
 let l:Int:=IntKind.wrap .i64 (i'+1)
 lf 2 [.string s',.int .i64 l] st)))) (
 some (0,[.string s'],st))
theorem zfH [Sym] (s':ByteArray) (i':Int) (st:SS) {r:Nat×List Value×SS} (h:zeB cc UD s' i' st=some r):UD 2 [.string s',.int .i64 i'] st=some r:=
 oM gu gy (key:=2) (I:=zgt) rfl (by kernel_rfl) (by kernel_rfl) rfl rfl (.trans (by kernel_rfl) h)
def zgu:eu:=⟨[(1,.any),(4,.any),(18,.any),(19,.int .i64),(20,.int .i64),(45,.any),(46,.int .i64),(47,.int .i64)],[(.exit 2,[(1,.any),(18,.any),(19,.int .i64),(20,.int .i64)]),(.ret,[(2,.bool)])]⟩
def zgv:eu:=⟨[(1,.any),(18,.any),(19,.int .i64),(20,.int .i64)],[(.exit 0,[]),(.ret,[(2,.bool)])]⟩
def zg7 (n:Nat):Option eu:=cond (Nat.beq n 4) (some zgv) (cond (Nat.beq n 9) (some zgu) (none))
noncomputable def ziu (cf:fQ) (lf:eX) (r':Value) (st:SS):Option (Value×SS):=
 let a:SS:=st.new (.cells (r':Value).cells.toList 0)
 (a.ld st.next 0).bind fun b=>
 ((lenV b).bind (ay .i64)).bind fun c=>
 cond (decide (2048<c)) (
 some (.bool false,a)) (
 (a.ld st.next 1).bind fun d=>
 ((lenV d).bind (ay .i64)).bind fun e=>
 cond (decide (255<e)) (
 some (.bool false,a)) (
 (a.ld st.next 1).bind fun f=>
 ((lenV f).bind (ay .i64)).bind fun g=>
 (lf 4 [ptr st.next 0,f,.int .i64 g,.int .i64 0] a).bind fun h=>
 cond (Nat.beq h.1 0) (
 some (.bool true,h.2.2)) (
 ((h.2.1[0]?).bind lF).bind fun i=>
 some (.bool i,h.2.2))))
noncomputable abbrev Kw:eX:=lS Tryz.prog Lk0 Tryz.f31 zg7
theorem zlg:Lk0.func 31=some (31,Tryz.f31):=by kernel_rfl
theorem zlh [Sym] (r':Value) (st:SS) {r:Value×SS} (h:ziu cc Kw r' st=some r):cc 31 [r'] st=some r:=
 mF (li:=zg7) gu gy zlg rfl (fun _=>rfl) (.trans (by kernel_rfl) h)
noncomputable def zeC (cf:fQ) (lf:eX) (r':Value) (rP:Value) (Ai:Int) (zq:Int) (st:SS):Option (Nat×List Value×SS):=
 cond (decide (zq<Ai)) (
 (fK rP zq 2).bind fun a=>
 (st.eF a.1 a.2 2).bind fun b=>
 let c:SS:=st.new (.cells [.string ⟨#[]⟩,.int .i64 0] 0)
 (c.eH st.next 0 2 b).bind fun d=>
 ((d.ld st.next 0).bind asS).bind fun e=>
 (cf 55 [.string e] d).bind fun f=>
 ((some f.1).bind lF).bind fun g=>
 cond (!g) (
 some (1,[.bool false],f.2)) (
 ((f.2.ld st.next 1).bind (ay .i64)).bind fun h=>
 cond (decide (h<0)) (
 some (1,[.bool false],f.2)) (
 ((f.2.ld st.next 1).bind (ay .i64)).bind fun i=>
 (aj r').bind fun j=>
 (f.2.ld j.1 j.2).bind fun k=>
 ((lenV k).bind (ay .i64)).bind fun l=>
 cond (decide (l≤i)) (
 some (1,[.bool false],f.2)) (
 (aj r').bind fun m=>
 (f.2.ld m.1 (m.2+1)).bind fun n=>
 (f.2.Bd n 2 0 zq).bind fun o=>
 ((lenV o).bind (ay .i64)).bind fun p=>
 (lf 9 [r',ptr st.next 0,rP,.int .i64 Ai,.int .i64 zq,o,.int .i64 p,.int .i64 0] f.2).bind fun q=>
 cond (Nat.beq q.1 0) (
 (q.2.1[0]?).bind fun r=>
 (q.2.1[1]?).bind fun s=>
 ((q.2.1[2]?).bind (ay .i64)).bind fun t=>
 ((q.2.1[3]?).bind (ay .i64)).bind fun u=>
 let v:Int:=IntKind.wrap .i64 (u+1)
 lf 4 [r,s,.int .i64 t,.int .i64 v] q.2.2) (
 ((q.2.1[0]?).bind lF).bind fun w=>
 some (1,[.bool w],q.2.2)))))) (
 some (0,[],st))
theorem zfI [Sym] (r':Value) (rP:Value) (Ai:Int) (zq:Int) (st:SS) {r:Nat×List Value×SS} (h:zeC cc Kw r' rP Ai zq st=some r):Kw 4 [r',rP,.int .i64 Ai,.int .i64 zq] st=some r:=
 oM gu gy (key:=4) (I:=zgv) rfl (by kernel_rfl) (by kernel_rfl) rfl rfl (.trans (by kernel_rfl) h)
noncomputable def zeD (cf:fQ) (lf:eX) (r':Value) (e':Value) (rP:Value) (Ai:Int) (zq:Int) (Ii:Value) (Ih:Int) (Gg:Int) (st:SS):Option (Nat×List Value×SS):=
 cond (decide (Gg<Ih)) (
 (fK Ii Gg 2).bind fun a=>
 (st.eF a.1 a.2 2).bind fun b=>
 let c:SS:=st.new (.cells [.string ⟨#[]⟩,.int .i64 0] 0)
 (c.eH st.next 0 2 b).bind fun d=>
 ((d.ld st.next 0).bind asS).bind fun e=>
 (aj e').bind fun f=>
 ((d.ld f.1 f.2).bind asS).bind fun g=>
 cond (fA e g) (
 some (1,[.bool false],d)) (
 let h:Int:=IntKind.wrap .i64 (Gg+1)
 lf 9 [r',e',rP,.int .i64 Ai,.int .i64 zq,Ii,.int .i64 Ih,.int .i64 h] d)) (
 some (0,[r',rP,.int .i64 Ai,.int .i64 zq],st))
theorem zfJ [Sym] (r':Value) (e':Value) (rP:Value) (Ai:Int) (zq:Int) (Ii:Value) (Ih:Int) (Gg:Int) (st:SS) {r:Nat×List Value×SS} (h:zeD cc Kw r' e' rP Ai zq Ii Ih Gg st=some r):Kw 9 [r',e',rP,.int .i64 Ai,.int .i64 zq,Ii,.int .i64 Ih,.int .i64 Gg] st=some r:=
 oM gu gy (key:=9) (I:=zgu) rfl (by kernel_rfl) (by kernel_rfl) rfl rfl (.trans (by kernel_rfl) h)
def zg8:eu:=⟨[(2,.any),(53,.any),(54,.int .i64),(55,.int .i64)],[(.exit 2,[]),(.ret,[(4,.bool)])]⟩
def zhH:eu:=⟨[(2,.any),(6,.any),(37,.any),(38,.int .i64),(39,.int .i64)],[(.exit 0,[(2,.any),(6,.any)]),(.ret,[(4,.bool)])]⟩
def zhR (n:Nat):Option eu:=cond (Nat.beq n 5) (some zhH) (cond (Nat.beq n 11) (some zg8) (none))
noncomputable def zjB (cf:fQ) (lf:eX) (r':Value) (text':ByteArray) (st:SS):Option (Value×SS):=
 let a:SS:=st.new (.cells (r':Value).cells.toList 0)
 (cf 17 [.string text'] a).bind fun b=>
 (fM b.1 0).bind fun c=>
 (fM b.1 1).bind fun d=>
 (fM b.1 2).bind fun e=>
 let f:SS:=b.2.new (.cells [.int .i64 0,.int .i64 0] 0)
 (f.eH b.2.next 0 2 e).bind fun g=>
 (sQ (ptr b.2.next 0) 2 0 1).bind fun h=>
 ((g.ld h.1 h.2).bind (ay .i64)).bind fun i=>
 cond (decide (0<i)) (
 some (.bool false,g)) (
 ((lenV c).bind (ay .i64)).bind fun j=>
 (g.ld st.next 0).bind fun k=>
 ((lenV k).bind (ay .i64)).bind fun l=>
 cond (!(decide (j=l))) (
 some (.bool false,g)) (
 ((lenV d).bind (ay .i64)).bind fun m=>
 (g.ld st.next 1).bind fun n=>
 ((lenV n).bind (ay .i64)).bind fun o=>
 cond (!(decide (m=o))) (
 some (.bool false,g)) (
 ((lenV c).bind (ay .i64)).bind fun p=>
 (lf 5 [ptr st.next 0,d,c,.int .i64 p,.int .i64 0] g).bind fun q=>
 cond (Nat.beq q.1 0) (
 (q.2.1[0]?).bind fun r=>
 (q.2.1[1]?).bind fun s=>
 ((lenV s).bind (ay .i64)).bind fun t=>
 (lf 11 [r,s,.int .i64 t,.int .i64 0] q.2.2).bind fun u=>
 cond (Nat.beq u.1 0) (
 some (.bool true,u.2.2)) (
 ((u.2.1[0]?).bind lF).bind fun v=>
 some (.bool v,u.2.2))) (
 ((q.2.1[0]?).bind lF).bind fun w=>
 some (.bool w,q.2.2)))))
noncomputable abbrev Ku:eX:=lS Tryz.prog Lk0 Tryz.f30 zhR
theorem zmw:Lk0.func 30=some (30,Tryz.f30):=by kernel_rfl
theorem zmx [Sym] (r':Value) (text':ByteArray) (st:SS) {r:Value×SS} (h:zjB cc Ku r' text' st=some r):cc 30 [r',.string text'] st=some r:=
 mF (li:=zhR) gu gy zmw rfl (fun _=>rfl) (.trans (by kernel_rfl) h)
noncomputable def zfl (cf:fQ) (lf:eX) (r':Value) (entries':Value) (Ij:Value) (tH:Int) (rZ:Int) (st:SS):Option (Nat×List Value×SS):=
 cond (decide (rZ<tH)) (
 (fK Ij rZ 12).bind fun a=>
 (st.eF a.1 a.2 12).bind fun b=>
 let c:SS:=st.new (.cells [.int .i64 0,.int .i64 0,.int .i64 0,.int .i64 0,.int .i64 0,.int .i64 0,.int .i64 0,.int .i64 0,.int .i64 0,.int .i64 0,.int .i64 0,.int .i64 0] 0)
 (c.eH st.next 0 12 b).bind fun d=>
 (d.eF st.next 0 12).bind fun e=>
 (cf 18 [e] (d.ro d.next)).bind fun f=>
 ((some f.1).bind (ay .u64)).bind fun g=>
 (aj r').bind fun h=>
 ((f.2.ro d.lim).ld h.1 h.2).bind fun i=>
 (fK i rZ 1).bind fun j=>
 (((f.2.ro d.lim).ld j.1 j.2).bind (ay .u64)).bind fun k=>
 cond (!(decide (g=k))) (
 some (1,[.bool false],(f.2.ro d.lim))) (
 let l:Int:=IntKind.wrap .i64 (rZ+1)
 lf 5 [r',entries',Ij,.int .i64 tH,.int .i64 l] (f.2.ro d.lim))) (
 some (0,[r',entries'],st))
theorem zgw [Sym] (r':Value) (entries':Value) (Ij:Value) (tH:Int) (rZ:Int) (st:SS) {r:Nat×List Value×SS} (h:zfl cc Ku r' entries' Ij tH rZ st=some r):Ku 5 [r',entries',Ij,.int .i64 tH,.int .i64 rZ] st=some r:=
 oM gu gy (key:=5) (I:=zhH) rfl (by kernel_rfl) (by kernel_rfl) rfl rfl (.trans (by kernel_rfl) h)
noncomputable def ze1 (cf:fQ) (lf:eX) (r':Value) (Ig:Value) (Ie:Int) (Ep:Int) (st:SS):Option (Nat×List Value×SS):=
 cond (decide (Ep<Ie)) (
 (fK Ig Ep 2).bind fun a=>
 (st.eF a.1 a.2 2).bind fun b=>
 let c:SS:=st.new (.cells [.string ⟨#[]⟩,.int .i64 0] 0)
 (c.eH st.next 0 2 b).bind fun d=>
 (d.eF st.next 0 2).bind fun e=>
 (aj r').bind fun f=>
 (d.ld f.1 (f.2+1)).bind fun g=>
 (fK g Ep 2).bind fun h=>
 (d.eF h.1 h.2 2).bind fun i=>
 (((Nw Tryz.prog Lk0 39 e i).bind fun r=>some (.bool !r)).bind lF).bind fun j=>
 cond j (
 some (1,[.bool false],d)) (
 let k:Int:=IntKind.wrap .i64 (Ep+1)
 lf 11 [r',Ig,.int .i64 Ie,.int .i64 k] d)) (
 some (0,[],st))
theorem zf2 [Sym] (r':Value) (Ig:Value) (Ie:Int) (Ep:Int) (st:SS) {r:Nat×List Value×SS} (h:ze1 cc Ku r' Ig Ie Ep st=some r):Ku 11 [r',Ig,.int .i64 Ie,.int .i64 Ep] st=some r:=
 oM gu gy (key:=11) (I:=zg8) rfl (by kernel_rfl) (by kernel_rfl) rfl rfl (.trans (by kernel_rfl) h)
def zec:eu:=⟨[(0,.int .i64),(3,.str),(6,.int .i64),(7,.any),(10,.str),(11,.bool),(12,.bool),(70,.any),(71,.int .i64),(72,.int .i64),(84,.any),(85,.int .i64),(86,.int .i64)],[(.exit 6,[(0,.int .i64),(3,.str),(6,.int .i64),(7,.any),(11,.bool),(12,.bool),(70,.any),(71,.int .i64),(72,.int .i64)])]⟩
def zed:eu:=⟨[(0,.int .i64),(3,.str),(6,.int .i64),(7,.any),(70,.any),(71,.int .i64),(72,.int .i64)],[(.exit 4,[(0,.int .i64),(3,.str),(6,.int .i64)]),(.ret,[(2,.bool)])]⟩
def zee:eu:=⟨[(0,.int .i64),(3,.str),(6,.int .i64)],[(.exit 2,[]),(.ret,[(2,.bool)])]⟩
def zeo:eu:=⟨[(0,.int .i64),(3,.str),(23,.any),(24,.int .i64),(25,.int .i64)],[(.exit 0,[(0,.int .i64),(3,.str)]),(.ret,[(2,.bool)])]⟩
def zeE (n:Nat):Option eu:=cond (Nat.beq n 7) (some zeo) (cond (Nat.beq n 14) (some zee) (cond (Nat.beq n 20) (some zed) (cond (Nat.beq n 25) (some zec) (none))))
noncomputable def Y8 (cf:fQ) (lf:eX) (iW:Int) (st:SS):Option (Value×SS):=
 (cf 26 [] st).bind fun a=>
 ((some a.1).bind lF).bind fun b=>
 cond (!b) (
 some (.bool false,a.2)) (
 cond (decide (iW<1)) (
 some (.bool true,a.2)) (
 cond (decide (3<iW)) (
 some (.bool true,a.2)) (
 (cf 27 [] a.2).bind fun c=>
 ((lenV c.1).bind (ay .i64)).bind fun d=>
 (lf 7 [.int .i64 iW,.string ⟨#[]⟩,c.1,.int .i64 d,.int .i64 0] c.2).bind fun e=>
 cond (Nat.beq e.1 0) (
 ((e.2.1[0]?).bind (ay .i64)).bind fun f=>
 ((e.2.1[1]?).bind asS).bind fun g=>
 (lf 14 [.int .i64 f,.string g,.int .i64 0] e.2.2).bind fun h=>
 cond (Nat.beq h.1 0) (
 some (.bool true,h.2.2)) (
 ((h.2.1[0]?).bind lF).bind fun i=>
 some (.bool i,h.2.2))) (
 ((e.2.1[0]?).bind lF).bind fun j=>
 some (.bool j,e.2.2)))))
noncomputable abbrev Dh:eX:=lS Tryz.prog Lk0 Tryz.f7 zeE
theorem zh9:Lk0.func 7=some (7,Tryz.f7):=by kernel_rfl
theorem zcY [Sym] (iW:Int) (st:SS) {r:Value×SS} (h:Y8 cc Dh iW st=some r):cc 7 [.int .i64 iW] st=some r:=
 mF (li:=zeE) gu gy zh9 rfl (fun _=>rfl) (.trans (by kernel_rfl) h)
noncomputable def zcZ (cf:fQ) (lf:eX) (iW:Int) (s':ByteArray) (zT:Value) (zS:Int) (vM:Int) (st:SS):Option (Nat×List Value×SS):=
 cond (decide (vM<zS)) (
 (fK zT vM 1).bind fun a=>
 ((st.ld a.1 a.2).bind asS).bind fun b=>
 cond (fA b ⟨#[]⟩) (
 some (1,[.bool false],st)) (
 let c:Int:=IntKind.wrap .i64 ((b.size:Int)-1)
 ((zI b c).bind (ay .u8)).bind fun d=>
 cond (!(decide (d=10))) (
 some (1,[.bool false],st)) (
 (((xE s' b).bind fun s=>some (.string s)).bind asS).bind fun e=>
 let f:Int:=IntKind.wrap .i64 (vM+1)
 lf 7 [.int .i64 iW,.string e,zT,.int .i64 zS,.int .i64 f] st))) (
 some (0,[.int .i64 iW,.string s'],st))
theorem zdU [Sym] (iW:Int) (s':ByteArray) (zT:Value) (zS:Int) (vM:Int) (st:SS) {r:Nat×List Value×SS} (h:zcZ cc Dh iW s' zT zS vM st=some r):Dh 7 [.int .i64 iW,.string s',zT,.int .i64 zS,.int .i64 vM] st=some r:=
 oM gu gy (key:=7) (I:=zeo) rfl (by kernel_rfl) (by kernel_rfl) rfl rfl (.trans (by kernel_rfl) h)
noncomputable def zcK (cf:fQ) (lf:eX) (iW:Int) (s':ByteArray) (i':Int) (st:SS):Option (Nat×List Value×SS):=
 cond (decide (i'<iW)) (
 (cf 28 [] st).bind fun a=>
 (fM a.1 0).bind fun b=>
 ((fM a.1 1).bind (ay .i64)).bind fun c=>
 let d:SS:=a.2.new (.cells [.slice none 0 0,.slice none 0 0] 0)
 (d.eH a.2.next 0 2 b).bind fun e=>
 cond (!(decide (c=0))) (
 some (1,[.bool false],e)) (
 (cf 29 [] e).bind fun f=>
 ((some f.1).bind asS).bind fun g=>
 cond (!(fA g s')) (
 some (1,[.bool false],f.2)) (
 (f.2.eF a.2.next 0 2).bind fun h=>
 (cf 30 [h,.string s'] f.2).bind fun i=>
 ((some i.1).bind lF).bind fun j=>
 cond (!j) (
 some (1,[.bool false],i.2)) (
 (i.2.eF a.2.next 0 2).bind fun k=>
 (cf 31 [k] i.2).bind fun l=>
 ((some l.1).bind lF).bind fun m=>
 cond (!m) (
 some (1,[.bool false],l.2)) (
 (cf 32 [] l.2).bind fun n=>
 ((lenV n.1).bind (ay .i64)).bind fun o=>
 (lf 20 [.int .i64 iW,.string s',.int .i64 i',ptr a.2.next 0,n.1,.int .i64 o,.int .i64 0] n.2).bind fun p=>
 cond (Nat.beq p.1 0) (
 ((p.2.1[0]?).bind (ay .i64)).bind fun q=>
 ((p.2.1[1]?).bind asS).bind fun r=>
 ((p.2.1[2]?).bind (ay .i64)).bind fun s=>
 let t:Int:=IntKind.wrap .i64 (s+1)
 lf 14 [.int .i64 q,.string r,.int .i64 t] p.2.2) (
 ((p.2.1[0]?).bind lF).bind fun u=>
 some (1,[.bool u],p.2.2))))))) (
 some (0,[],st))
theorem zdK [Sym] (iW:Int) (s':ByteArray) (i':Int) (st:SS) {r:Nat×List Value×SS} (h:zcK cc Dh iW s' i' st=some r):Dh 14 [.int .i64 iW,.string s',.int .i64 i'] st=some r:=
 oM gu gy (key:=14) (I:=zee) rfl (by kernel_rfl) (by kernel_rfl) rfl rfl (.trans (by kernel_rfl) h)
noncomputable def zcL (cf:fQ) (lf:eX) (iW:Int) (s':ByteArray) (i':Int) (r':Value) (pJ:Value) (oN:Int) (xM:Int) (st:SS):Option (Nat×List Value×SS):=
 cond (decide (xM<oN)) (
 (fK pJ xM 1).bind fun a=>
 ((st.ld a.1 a.2).bind asS).bind fun b=>
 (cf 33 [] st).bind fun c=>
 (fK c.1 xM 1).bind fun d=>
 ((c.2.ld d.1 d.2).bind asS).bind fun e=>
 (aj r').bind fun f=>
 (c.2.ld f.1 (f.2+1)).bind fun g=>
 ((lenV g).bind (ay .i64)).bind fun h=>
 (lf 25 [.int .i64 iW,.string s',.int .i64 i',r',.string b,.bool (fA e b),.bool false,pJ,.int .i64 oN,.int .i64 xM,g,.int .i64 h,.int .i64 0] c.2).bind fun i=>
 ((i.2.1[0]?).bind (ay .i64)).bind fun j=>
 ((i.2.1[1]?).bind asS).bind fun k=>
 ((i.2.1[2]?).bind (ay .i64)).bind fun l=>
 (i.2.1[3]?).bind fun m=>
 ((i.2.1[4]?).bind lF).bind fun n=>
 ((i.2.1[5]?).bind lF).bind fun o=>
 (i.2.1[6]?).bind fun p=>
 ((i.2.1[7]?).bind (ay .i64)).bind fun q=>
 ((i.2.1[8]?).bind (ay .i64)).bind fun r=>
 cond (!n) (
 some (1,[.bool false],i.2.2)) (
 cond (!o) (
 some (1,[.bool false],i.2.2)) (
 let s:Int:=IntKind.wrap .i64 (r+1)
 lf 20 [.int .i64 j,.string k,.int .i64 l,m,p,.int .i64 q,.int .i64 s] i.2.2))) (
 some (0,[.int .i64 iW,.string s',.int .i64 i'],st))
theorem zdL [Sym] (iW:Int) (s':ByteArray) (i':Int) (r':Value) (pJ:Value) (oN:Int) (xM:Int) (st:SS) {r:Nat×List Value×SS} (h:zcL cc Dh iW s' i' r' pJ oN xM st=some r):Dh 20 [.int .i64 iW,.string s',.int .i64 i',r',pJ,.int .i64 oN,.int .i64 xM] st=some r:=
 oM gu gy (key:=20) (I:=zed) rfl (by kernel_rfl) (by kernel_rfl) rfl rfl (.trans (by kernel_rfl) h)
noncomputable def Zm (cf:fQ) (lf:eX) (iW:Int) (s':ByteArray) (i':Int) (r':Value) (n':ByteArray) (found':Bool) (is':Bool) (pJ:Value) (oN:Int) (xM:Int) (F9:Value) (F8:Int) (Eo:Int) (st:SS):Option (Nat×List Value×SS):=
 cond (decide (Eo<F8)) (
 (fK F9 Eo 2).bind fun a=>
 (st.eF a.1 a.2 2).bind fun b=>
 let c:SS:=st.new (.cells [.string ⟨#[]⟩,.int .i64 0] 0)
 (c.eH st.next 0 2 b).bind fun d=>
 cond is' (
 let e:Int:=IntKind.wrap .i64 (Eo+1)
 lf 25 [.int .i64 iW,.string s',.int .i64 i',r',.string n',.bool found',.bool true,pJ,.int .i64 oN,.int .i64 xM,F9,.int .i64 F8,.int .i64 e] d) (
 ((d.ld st.next 0).bind asS).bind fun f=>
 let g:Int:=IntKind.wrap .i64 (Eo+1)
 lf 25 [.int .i64 iW,.string s',.int .i64 i',r',.string n',.bool found',.bool (fA f n'),pJ,.int .i64 oN,.int .i64 xM,F9,.int .i64 F8,.int .i64 g] d)) (
 some (0,[.int .i64 iW,.string s',.int .i64 i',r',.bool found',.bool is',pJ,.int .i64 oN,.int .i64 xM],st))
theorem zcj [Sym] (iW:Int) (s':ByteArray) (i':Int) (r':Value) (n':ByteArray) (found':Bool) (is':Bool) (pJ:Value) (oN:Int) (xM:Int) (F9:Value) (F8:Int) (Eo:Int) (st:SS) {r:Nat×List Value×SS} (h:Zm cc Dh iW s' i' r' n' found' is' pJ oN xM F9 F8 Eo st=some r):Dh 25 [.int .i64 iW,.string s',.int .i64 i',r',.string n',.bool found',.bool is',pJ,.int .i64 oN,.int .i64 xM,F9,.int .i64 F8,.int .i64 Eo] st=some r:=
 oM gu gy (key:=25) (I:=zec) rfl (by kernel_rfl) (by kernel_rfl) rfl rfl (.trans (by kernel_rfl) h)
end Go.Proofs.YtifploedaacedaaGreatDoorE
namespace Go.Proofs.YtifploedaacedaaGreatDoorE
open Go Go.E Go.Proofs
theorem zxk [Sym] {r:Nat} {wc ev v13 wr:Value} (ws:List Wd) (hws:∀ w∈ws,LU w) (hsz:ws.length≤2048) (base:SS) (hll:base.lim≤base.next) (hr:At base r [wc,ev]) (hc:Rd base wc (ak CO ws) 1 ws.length) (hv:Rd base wr (ak w12 ws) 12 ws.length):∀ (k i:Nat) (s:SS),ws.length=k+i→Ext base s→
  ∃ s',Ext base s'∧Ku 5 [ptr r 0,v13,wr,.int .i64 ws.length,.int .i64 i] s=some (0,[ptr r 0,v13],s'):=by
 intro k
 induction k with
 | zero=>
   intro i s hk he
   have h:¬ (i:Int)<(ws.length:Int):=by omega
   refine ⟨s,he,zgw _ _ _ _ _ s ?_⟩
   simp only [zfl,bg h,dn]
 | succ k ih=>
   intro i s hk he
   have h:(i:Int)<(ws.length:Int):=by omega
   obtain ⟨w,hg⟩:∃ w,ws[i]?=some w:=⟨_,mW (by omega)⟩
   have hw:=hws w (xH hg)
   obtain ⟨p1,b1,b2,_⟩:=(hv.ext he).load (j:=(i:Int)) (by omega) h (xw (f:=w12) (z:=12) X6 ws i w hg) (X6 w)
   rw [zv3 hw.1] at b2
   obtain ⟨s4,e4,a4,x4,n4⟩:=pX (n:=12) (st:=s) (he.ll hll) (r:=mP) (row:=wRow w) (v:=wV w) (lU _) (by rw [rX,hw.1]) (FW w) rfl
   have e4':(s.new (.cells [.int .i64 0,.int .i64 0,.int .i64 0,.int .i64 0,.int .i64 0,.int .i64 0,.int .i64 0,.int .i64 0,.int .i64 0,.int .i64 0,.int .i64 0,.int .i64 0] 0)).eH s.next 0 12 (wV w)=some s4:=e4
   have b2':s.eF p1.1 p1.2 12=some (wV w):=b2
   have he4:=he.trans x4
   have l9:s4.eF s.next 0 12=some (wV w):=a4.eF (by rw [rX,hw.1])
   obtain ⟨n10,hn10,c10⟩:=zxe w hw (s4.ro s4.next)
   have hst:((s4.ro s4.next).dw n10).ro s4.lim=s4.dw n10:=rfl
   have Wj:s4.next≤n10:=hn10
   have x10:Ext s4 (s4.dw n10):=(Ext.refl _).dw Wj
   have l6:(s4.dw n10).ld r 0=some wc:=(hr.ext (he4.trans x10)).ld
   obtain ⟨p7,c1,_,c3⟩:=(hc.ext (he4.trans x10)).load (j:=(i:Int)) (by omega) h (xw (f:=CO) (z:=1) (fun _=>rfl) ws i w hg) rfl
   have l8:(s4.dw n10).ld p7.1 p7.2=some (.int .u64 (Gu w)):=c3 0 (by omega)
   obtain ⟨s',f1,f2⟩:=ih (i+1) (s4.dw n10) (by omega) (he4.trans x10)
   have hw1:=ru (i:=i) (by omega)
   have u8:ay .u64 (.int .u64 (Gu w))=some (Gu w):=rfl
   refine ⟨s',f1,zgw _ _ _ _ _ s ?_⟩
   simp only [zfl,zdt h,cu,b1,b2',e4',bf,fZ,l6,c1,l8,l9,c10,u8,hst,decide_true,lY,dn,hw1]
   exact f2
theorem zyn [Sym] {r:Nat} {wc ev er:Value} (es:List (List UInt8×Int)) (hsz:es.length≤1099511627776) (base:SS) (hll:base.lim≤base.next) (hr:At base r [wc,ev]) (hc:Rd base ev (ak oU es) 2 es.length) (hv:Rd base er (ak oU es) 2 es.length):∀ (k i:Nat) (s:SS),es.length=k+i→Ext base s→
  ∃ s',Ext base s'∧Ku 11 [ptr r 0,er,.int .i64 es.length,.int .i64 i] s=some (0,[],s'):=by
 intro k
 induction k with
 | zero=>
   intro i s hk he
   have h:¬ (i:Int)<(es.length:Int):=by omega
   refine ⟨s,he,zf2 _ _ _ _ s ?_⟩
   simp only [ze1,bg h,dn]
 | succ k ih=>
   intro i s hk he
   have h:(i:Int)<(es.length:Int):=by omega
   obtain ⟨e,hg⟩:∃ e,es[i]?=some e:=⟨_,mW (by omega)⟩
   have hgr:=xw (f:=oU) (z:=2) (fun _=>rfl) es i e hg
   obtain ⟨p1,b1,b2,_⟩:=(hv.ext he).load (j:=(i:Int)) (by omega) h hgr rfl
   have b2':s.eF p1.1 p1.2 2=some (.agg (oU e).toArray):=b2
   obtain ⟨s4,e4,a4,x4,n4⟩:=pX (n:=2) (st:=s) (he.ll hll) (r:=oU ([],0)) (row:=oU e) (v:=.agg (oU e).toArray) (lU _) rfl rfl rfl
   have e4':(s.new (.cells [.string ⟨#[]⟩,.int .i64 0] 0)).eH s.next 0 2 (.agg (oU e).toArray)=some s4:=e4
   have he4:=he.trans x4
   have l6:s4.ld r (0+1)=some ev:=(hr.ext he4).ld
   obtain ⟨p7,c1,c2,_⟩:=(hc.ext he4).load (j:=(i:Int)) (by omega) h hgr rfl
   have c2':s4.eF p7.1 p7.2 2=some (.agg (oU e).toArray):=c2
   have l9:s4.eF s.next 0 2=some (.agg (oU e).toArray):=a4.eF rfl
   have hq:Nw Tryz.prog Lk0 39 (.agg (oU e).toArray) (.agg (oU e).toArray)=some true:=by
    have h1:=zxf (mkS e.1) (mkS e.1) e.2 e.2
    have h2:fA (mkS e.1) (mkS e.1)=true:=by rw [JC];simp
    rw [h2] at h1
    simpa [oU] using h1
   obtain ⟨s',f1,f2⟩:=ih (i+1) s4 (by omega) he4
   have hw1:=ru (i:=i) (by omega)
   refine ⟨s',f1,zf2 _ _ _ _ s ?_⟩
   simp only [ze1,zdt h,cu,b1,b2',e4',bf,fZ,l6,c1,c2',l9,hq,lY,mg,dn,hw1]
   exact f2
theorem V3 [Sym] {t:List UInt8} (ht:t.length≤65536) {ws:List Wd} {es:List (List UInt8×Int)} (ha:EM t=.ok (ws,es)) {st:SS} (hl:st.lim≤st.next) {wv ev:Value} (o1:Rd st wv (ak CO ws) 1 ws.length) (o2:Rd st ev (ak oU es) 2 es.length) (w1:one wv=true) (w2:one ev=true):
  ∃ s',cc 30 [CW wv ev,.string (mkS t)] st=some (.bool true,s')∧Ext st s':=by
 obtain ⟨hwd,hwl⟩:=ztt ha
 have hel:=(ztu ha).1
 have hc:(CW wv ev).cells.toList=[wv,ev]:=by show (Value.agg [wv,ev].toArray).cells.toList=_;exact lU _
 have x1:Ext st (st.new (.cells [wv,ev] 0)):=(Ext.refl _).new _
 have a1:At (st.new (.cells [wv,ev] 0)) st.next [wv,ev]:=At.new hl _
 obtain ⟨s1,hs1⟩:∃ s1,st.new (.cells [wv,ev] 0)=s1:=⟨_,rfl⟩
 rw [hs1] at x1 a1
 have hra:=zyj (x1.ll hl) (mkS t) (by rw [Oo];exact ht)
 rw [vW,ha] at hra
 obtain ⟨s2,wr,er,c2,x2,o3,o4⟩:=hra
 obtain ⟨s7,e7,a7,x7,n7⟩:=pX (n:=2) (st:=s2) ((x1.trans x2).ll hl) (r:=Z2) (row:=Z2) (v:=rH (0,0)) rfl rfl rfl rfl
 have e7':(s2.new (.cells [.int .i64 0,.int .i64 0] 0)).eH s2.next 0 2 (rH (0,0))=some s7:=e7
 have x17:=x2.trans x7
 have x07:=x1.trans x17
 have t0:∀ (a b c:Value),fM (.tuple #[a,b,c]) 0=some a:=fun _ _ _=>rfl
 have t1:∀ (a b c:Value),fM (.tuple #[a,b,c]) 1=some b:=fun _ _ _=>rfl
 have t2:∀ (a b c:Value),fM (.tuple #[a,b,c]) 2=some c:=fun _ _ _=>rfl
 have b0:Nat.beq 0 0=true:=rfl
 have c20:∀ i,sQ (ptr i 0) 2 0 1=some (i,0):=fun i=>rfl
 have l9:s7.ld s2.next 0=some (.int .i64 0):=a7.ld
 have a17:=a1.ext x17
 have tZ:s7.ld st.next 0=some wv:=a17.ld
 have xC:s7.ld st.next 1=some ev:=a17.ld
 have q1:(lenV wv).bind (ay .i64)=some (ws.length:Int):=by rw [o1.len];rfl
 have q2:(lenV ev).bind (ay .i64)=some (es.length:Int):=by rw [o2.len];rfl
 have q3:(lenV wr).bind (ay .i64)=some (ws.length:Int):=by rw [o3.len];rfl
 have q4:(lenV er).bind (ay .i64)=some (es.length:Int):=by rw [o4.len];rfl
 have Wq:=x07.ll hl
 obtain ⟨oZ,x17',f17⟩:=zxk (v13:=er) ws hwd hwl s7 Wq a17 (o1.ext x07) (o3.rd.ext x7) ws.length 0 s7 rfl (Ext.refl _)
 obtain ⟨E8,x18,f18⟩:=zyn es (by omega) s7 Wq a17 (o2.ext x07) (o4.rd.ext x7) es.length 0 oZ rfl x17'
 have QD:Ku 5 [ptr st.next 0,er,wr,.int .i64 ws.length,.int .i64 0] s7=some (0,[ptr st.next 0,er],oZ):=f17
 have f18':Ku 11 [ptr st.next 0,er,.int .i64 es.length,.int .i64 0] oZ=some (0,[],E8):=f18
 have z0:¬ (0:Int)<0:=by omega
 refine ⟨E8,zmx _ _ st ?_,x07.trans x18⟩
 simp only [zjB,hc,hs1,c2,bf,t0,t1,t2,e7',c20,l9,eP,bg z0,dn,tZ,xC,q1,q2,q3,q4,decide_true,lY]
 rw [QD,bf]
 simp only [b0,cu,lN,iZ,bf,q4]
 rw [f18',bf]
 simp only [b0,cu]
end Go.Proofs.YtifploedaacedaaGreatDoorE
namespace Go.Proofs.YtifploedaacedaaGreatDoorE
open Go Go.E Go.Proofs
def NV (l:List UInt8):Bool:=(l.all fun b=>Nat.ble 97 b.toNat&&Nat.ble b.toNat 122)&&Nat.ble 1 l.length&&Nat.ble l.length 24
theorem zwi [Sym] {l:List UInt8} (hl:NV l=true) (st:SS):∀ (k i:Nat),l.length=k+i→UD 2 [.string (mkS l),.int .i64 i] st=some (0,[.string (mkS l)],st):=by
 unfold NV at hl
 simp only [mX,List.all_eq_true,Nat.ble_eq] at hl
 obtain ⟨⟨h1,h2⟩,h3⟩:=hl
 intro k
 induction k with
 | zero=>
   intro i hk
   have h:¬ (i:Int)<((mkS l).size:Int):=by rw [Oo];omega
   refine zfH _ _ st ?_
   simp only [zeB,bg h,dn]
 | succ k ih=>
   intro i hk
   have h:(i:Int)<((mkS l).size:Int):=by rw [Oo];omega
   obtain ⟨b,hb⟩:∃ b,l[i]?=some b:=⟨_,mW (by omega)⟩
   obtain ⟨g1,g2⟩:=h1 b (xH hb)
   have hx:(zI (mkS l) (i:Int)).bind (ay .u8)=some (b.toNat:Int):=Oh (by rw [vW];exact hb)
   have g1':(97:Int)≤(b.toNat:Int):=by omega
   have g2':(b.toNat:Int)≤122:=by omega
   have hw1:=ru (i:=i) (by omega)
   refine zfH _ _ st ?_
   simp only [zeB,zdt h,cu,hx,bf,zdt g1',zdt g2',hw1]
   exact ih (i+1) (by omega)
theorem zxl [Sym] {l:List UInt8} (hl:NV l=true) (st:SS):cc 55 [.string (mkS l)] st=some (.bool true,st):=by
 have h:=zwi hl st l.length 0 rfl
 have h':UD 2 [.string (mkS l),.int .i64 0] st=some (0,[.string (mkS l)],st):=h
 unfold NV at hl
 simp only [mX,Nat.ble_eq] at hl
 have h2:(1:Int)≤((mkS l).size:Int):=by rw [Oo];omega
 have h3:((mkS l).size:Int)≤24:=by rw [Oo];omega
 have b0:Nat.beq 0 0=true:=rfl
 refine zlf _ st ?_
 simp only [zit,h',bf,b0,cu,iZ,fP,zdt h2,zdt h3]
theorem zyo {st:SS} {b n i:Nat} {c:List Value} (hm:st.mem.get b=some (.cells c 2)) (hn:0<n) (hi:i≤n):st.Bd (.slice (some ⟨b,0,none⟩) n n) 2 0 (i:Int)=some (.slice (some ⟨b,0,none⟩) i n):=by
 unfold SS.Bd
 have h1:decide ((i:Int)≤(n:Int))=true:=zdt (by omega)
 have h2:decide ((0:Int)≤(i:Int))=true:=zdt (by omega)
 have h3:Nat.beq 2 2=true:=rfl
 have h4:∀ m,cond (Nat.beq n m) 0 (0+0*2)=0:=fun m=>by cases Nat.beq n m<;>rfl
 simp [hm,h1,h2,h3,hi]
theorem zyp [Sym] {r' t18 v15 ev:Value} {t19 t20:Int} {eb i:Nat} {e:List UInt8×Int} (es:List (List UInt8×Int)) (hi:i≤es.length) (hsz:es.length≤255) (base:SS) (hll:base.lim≤base.next) (hv:Rd base ev (ak oU es) 2 es.length) (hel:∀ j:Nat,j<i→fK v15 (j:Int) 2=fK ev (j:Int) 2) (ae:At base eb (oU e)) (hne:∀ (j:Nat) x,j<i→es[j]?=some x→x.1≠e.1):∀ (k j:Nat) (s:SS),i=k+j→Ext base s→
  ∃ s',Ext base s'∧Kw 9 [r',ptr eb 0,t18,.int .i64 t19,.int .i64 t20,v15,.int .i64 i,.int .i64 j] s=some (0,[r',t18,.int .i64 t19,.int .i64 t20],s'):=by
 intro k
 induction k with
 | zero=>
   intro j s hk he
   have h:¬ (j:Int)<(i:Int):=by omega
   refine ⟨s,he,zfJ _ _ _ _ _ _ _ _ s ?_⟩
   simp only [zeD,bg h,dn]
 | succ k ih=>
   intro j s hk he
   have h:(j:Int)<(i:Int):=by omega
   obtain ⟨x,hg⟩:∃ x,es[j]?=some x:=⟨_,mW (by omega)⟩
   obtain ⟨p1,b1,b2,_⟩:=(hv.ext he).load (j:=(j:Int)) (by omega) (by omega) (xw (f:=oU) (z:=2) (fun _=>rfl) es j x hg) rfl
   rw [← hel j (by omega)] at b1
   have b2':s.eF p1.1 p1.2 2=some (.agg (oU x).toArray):=b2
   obtain ⟨s4,e4,a4,x4,n4⟩:=pX (n:=2) (st:=s) (he.ll hll) (r:=oU ([],0)) (row:=oU x) (v:=.agg (oU x).toArray) (lU _) rfl rfl rfl
   have e4':(s.new (.cells [.string ⟨#[]⟩,.int .i64 0] 0)).eH s.next 0 2 (.agg (oU x).toArray)=some s4:=e4
   have he4:=he.trans x4
   have l5:s4.ld s.next 0=some (.string (mkS x.1)):=a4.ld
   have l7:s4.ld eb 0=some (.string (mkS e.1)):=(ae.ext he4).ld
   have hq:fA (mkS x.1) (mkS e.1)=false:=by rw [DW];exact bg (hne j x (by omega) hg)
   have hw1:=ru (i:=j) (by omega)
   obtain ⟨s',f1,f2⟩:=ih (j+1) s4 (by omega) he4
   refine ⟨s',f1,zfJ _ _ _ _ _ _ _ _ s ?_⟩
   simp only [zeD,zdt h,cu,b1,b2',e4',bf,l5,fP,fZ,l7,hq,dn,hw1]
   exact f2
theorem zuB [Sym] {r b:Nat} {wv:Value} {N:Nat} (hN:(lenV wv).bind (ay .i64)=some (N:Int)) (es:List (List UInt8×Int)) (hsz:es.length≤255) (hnm:∀ e∈es,NV e.1=true∧0≤e.2∧e.2<N) (hnd:∀ (i j:Nat) x e,j<i→es[j]?=some x→es[i]?=some e→x.1≠e.1)
  (base:SS) (hll:base.lim≤base.next) (hr:At base r [wv,.slice (some ⟨b,0,none⟩) es.length es.length]) (hm:base.mem.get b=some (.cells (ak oU es) 2)) (hb:b<base.next):∀ (k i:Nat) (s:SS),es.length=k+i→Ext base s→
  ∃ s',Ext base s'∧Kw 4 [ptr r 0,.slice (some ⟨b,0,none⟩) es.length es.length,.int .i64 es.length,.int .i64 i] s=some (0,[],s'):=by
 have hv:Rd base (.slice (some ⟨b,0,none⟩) es.length es.length) (ak oU es) 2 es.length:=⟨RF (f:=oU) (z:=2) (fun _=>rfl) _,.inr ⟨b,es.length,rfl,⟨2,hm⟩,hb⟩⟩
 intro k
 induction k with
 | zero=>
   intro i s hk he
   have h:¬ (i:Int)<(es.length:Int):=by omega
   refine ⟨s,he,zfI _ _ _ _ s ?_⟩
   simp only [zeC,bg h,dn]
 | succ k ih=>
   intro i s hk he
   have h:(i:Int)<(es.length:Int):=by omega
   obtain ⟨e,hg⟩:∃ e,es[i]?=some e:=⟨_,mW (by omega)⟩
   obtain ⟨h1,h2,h3⟩:=hnm e (xH hg)
   obtain ⟨p1,b1,b2,_⟩:=(hv.ext he).load (j:=(i:Int)) (by omega) h (xw (f:=oU) (z:=2) (fun _=>rfl) es i e hg) rfl
   have b2':s.eF p1.1 p1.2 2=some (.agg (oU e).toArray):=b2
   obtain ⟨s4,e4,a4,x4,n4⟩:=pX (n:=2) (st:=s) (he.ll hll) (r:=oU ([],0)) (row:=oU e) (v:=.agg (oU e).toArray) (lU _) rfl rfl rfl
   have e4':(s.new (.cells [.string ⟨#[]⟩,.int .i64 0] 0)).eH s.next 0 2 (.agg (oU e).toArray)=some s4:=e4
   have he4:=he.trans x4
   have l5:s4.ld s.next 0=some (.string (mkS e.1)):=a4.ld
   have c6:=zxl h1 s4
   have l8:s4.ld s.next 1=some (.int .i64 e.2):=a4.ld
   have q1:¬ e.2<0:=by omega
   have q2:¬ (N:Int)≤e.2:=by omega
   have tZ:s4.ld r 0=some wv:=(hr.ext he4).ld
   have xC:s4.ld r (0+1)=some (.slice (some ⟨b,0,none⟩) es.length es.length):=(hr.ext he4).ld
   have c15:=zyo (st:=s4) (he4.get hb hm) (show 0<es.length by omega) (show i≤es.length by omega)
   have Fg:(lenV (.slice (some ⟨b,0,none⟩) i es.length)).bind (ay .i64)=some (i:Int):=rfl
   have hel:∀ j:Nat,j<i→fK (.slice (some ⟨b,0,none⟩) i es.length) (j:Int) 2=fK (.slice (some ⟨b,0,none⟩) es.length es.length) (j:Int) 2:=fun j hj=>by
    have y1:(j:Int)<(i:Int):=by omega
    have y2:(j:Int)<(es.length:Int):=by omega
    unfold fK
    simp only [zdt y1,zdt y2]
   obtain ⟨oZ,x17,f17⟩:=zyp (r':=ptr r 0) (t18:=.slice (some ⟨b,0,none⟩) es.length es.length) (t19:=es.length) (t20:=i) es (show i≤es.length by omega) hsz s4 (he4.ll hll) (hv.ext he4) hel a4 (fun j x hj hx=>hnd i j x e hj hx hg) i 0 s4 rfl (Ext.refl _)
   have QD:Kw 9 [ptr r 0,ptr s.next 0,.slice (some ⟨b,0,none⟩) es.length es.length,.int .i64 es.length,.int .i64 i,.slice (some ⟨b,0,none⟩) i es.length,.int .i64 i,.int .i64 0] s4=_:=f17
   have b0:Nat.beq 0 0=true:=rfl
   have hw1:=ru (i:=i) (by omega)
   obtain ⟨s',f1,f2⟩:=ih (i+1) oZ (by omega) (he4.trans x17)
   refine ⟨s',f1,zfI _ _ _ _ s ?_⟩
   simp only [zeC,zdt h,cu,b1,b2',e4',bf,l5,fP,c6,mg,lY,dn,l8,eP,bg q1,fZ,tZ,hN,bg q2,xC,c15,Fg]
   rw [QD,bf]
   simp only [b0,cu,lN,iZ,bf,eP,hw1]
   exact f2
theorem zxm [Sym] {ws:List Wd} (hws:ws.length≤2048) (es:List (List UInt8×Int)) (h0:0<es.length) (hsz:es.length≤255) (hnm:∀ e∈es,NV e.1=true∧0≤e.2∧e.2<ws.length) (hnd:∀ (i j:Nat) x e,j<i→es[j]?=some x→es[i]?=some e→x.1≠e.1)
  {st:SS} {B:Nat} (hl:st.lim≤st.next) {wv ev:Value} (o1:Rd st wv (ak CO ws) 1 ws.length) (o2:Own B st ev (ak oU es) 2 es.length):∃ s',cc 31 [CW wv ev] st=some (.bool true,s')∧Ext st s':=by
 have hc:(CW wv ev).cells.toList=[wv,ev]:=by show (Value.agg [wv,ev].toArray).cells.toList=_;exact lU _
 have x1:Ext st (st.new (.cells [wv,ev] 0)):=(Ext.refl _).new _
 have a1:At (st.new (.cells [wv,ev] 0)) st.next [wv,ev]:=At.new hl _
 obtain ⟨s1,hs1⟩:∃ s1,st.new (.cells [wv,ev] 0)=s1:=⟨_,rfl⟩
 rw [hs1] at x1 a1
 have q1:(lenV wv).bind (ay .i64)=some (ws.length:Int):=by rw [o1.len];rfl
 have q2:(lenV ev).bind (ay .i64)=some (es.length:Int):=by rw [o2.len];rfl
 have l2:s1.ld st.next 0=some wv:=a1.ld
 have l4:s1.ld st.next 1=some ev:=a1.ld
 have z1:¬ (2048:Int)<(ws.length:Int):=by omega
 have z2:¬ (255:Int)<(es.length:Int):=by omega
 have b0:Nat.beq 0 0=true:=rfl
 obtain ⟨_,⟨_,hz⟩ | ⟨b,rfl,_,hm,_,hb⟩⟩:=o2
 ·omega
 obtain ⟨s8,x8,f8⟩:=zuB q1 es hsz hnm hnd s1 (x1.ll hl) a1 (x1.get hb hm) (pz hb x1.next) es.length 0 s1 rfl (Ext.refl _)
 have f8':Kw 4 [ptr st.next 0,.slice (some ⟨b,0,none⟩) es.length es.length,.int .i64 es.length,.int .i64 0] s1=some (0,[],s8):=f8
 refine ⟨s8,zlh _ st ?_,x1.trans x8⟩
 simp only [ziu,hc,hs1,l2,bf,q1,bg z1,dn,l4,q2,bg z2]
 rw [f8',bf]
 simp only [b0,cu]
end Go.Proofs.YtifploedaacedaaGreatDoorE
namespace Go.Proofs.YtifploedaacedaaGreatDoorE
set_option maxRecDepth 100000
open Go Go.E Go.Proofs
theorem zsS [Sym] {st:SS} {v:Value} {times:Int} {ls:List (List UInt8)} (hv:Rd st v (ak strRow ls) 1 ls.length) (hm:ls.length≤1000) (hnl:∀ x∈ls,x[x.length-1]?=some 10):∀ (k i:Nat) (s:List UInt8),ls.length=k+i→s.length+(ls.drop i).flatten.length≤1000000→
  Dh 7 [.int .i64 times,.string (mkS s),v,.int .i64 ls.length,.int .i64 i] st=some (0,[.int .i64 times,.string (mkS (s++(ls.drop i).flatten))],st):=by
 intro k
 induction k with
 | zero=>
   intro i s hk hs
   have h:¬ (i:Int)<(ls.length:Int):=by omega
   refine zdU _ _ _ _ _ st ?_
   simp only [zcZ,bg h,dn,List.drop_of_length_le (show ls.length≤i by omega),List.flatten_nil,List.append_nil]
 | succ k ih=>
   intro i s hk hs
   have h:(i:Int)<(ls.length:Int):=by omega
   have hw:=ru (i:=i) (by omega)
   obtain ⟨x,hx⟩:∃ x,ls[i]?=some x:=⟨_,mW (by omega)⟩
   obtain ⟨p,p1,p2⟩:=NW hv hx
   rw [drop_cons hx,List.flatten_cons] at hs ⊢
   rw [List.length_append] at hs
   have hl:=hnl x (xH hx)
   have h0:0<x.length:=by have:=(List.getElem?_eq_some_iff.1 hl).1;omega
   have hne:fA (mkS x) ⟨#[]⟩=false:=by rw [Ef];exact bg (fun hh=>by rw [hh] at h0;simp at h0)
   have hw3:IntKind.wrap .i64 (((mkS x).size:Int)-1)=((x.length-1:Nat):Int):=by rw [Oo,wrap64 (by omega) (by omega)];omega
   have hix:(zI (mkS x) ((x.length-1:Nat):Int)).bind (ay .u8)=some (((10:UInt8).toNat:Nat):Int):=Oh (by rw [vW];exact hl)
   have h10:((((10:UInt8).toNat:Nat):Int)=10)=True:=eq_true rfl
   have e1:=JZ (a:=s) (b:=x) (by omega)
   have e2:=ih (i+1) (s++x) (by omega) (by rw [List.length_append];omega)
   rw [List.append_assoc] at e2
   refine zdU _ _ _ _ _ st ?_
   simp only [zcZ,zdt h,cu,p1,p2,bf,fP,hne,dn,hw3,hix,h10,decide_true,lY,e1,hw]
   exact e2
theorem zuC [Sym] {r' ev t70:Value} {times i' t71 t72:Int} {s':ByteArray} {f:Bool} {n:List UInt8} (es:List (List UInt8×Int)) (hsz:es.length≤255) (base:SS) (hll:base.lim≤base.next) (hv:Rd base ev (ak oU es) 2 es.length):∀ (k j:Nat) (is:Bool) (s:SS),es.length=k+j→Ext base s→
  ∃ s2,Ext base s2∧Dh 25 [.int .i64 times,.string s',.int .i64 i',r',.string (mkS n),.bool f,.bool is,t70,.int .i64 t71,.int .i64 t72,ev,.int .i64 es.length,.int .i64 j] s=some (0,[.int .i64 times,.string s',.int .i64 i',r',.bool f,.bool (is||(es.drop j).any fun e=>decide (e.1=n)),t70,.int .i64 t71,.int .i64 t72],s2):=by
 intro k
 induction k with
 | zero=>
   intro j is s hk he
   have h:¬ (j:Int)<(es.length:Int):=by omega
   refine ⟨s,he,zcj _ _ _ _ _ _ _ _ _ _ _ _ _ s ?_⟩
   simp only [Zm,bg h,dn,List.drop_of_length_le (show es.length≤j by omega),List.any_nil,Bool.or_false]
 | succ k ih=>
   intro j is s hk he
   have h:(j:Int)<(es.length:Int):=by omega
   obtain ⟨x,hg⟩:∃ x,es[j]?=some x:=⟨_,mW (by omega)⟩
   obtain ⟨p1,b1,b2,_⟩:=(hv.ext he).load (j:=(j:Int)) (by omega) (by omega) (xw (f:=oU) (z:=2) (fun _=>rfl) es j x hg) rfl
   have b2':s.eF p1.1 p1.2 2=some (.agg (oU x).toArray):=b2
   obtain ⟨s4,e4,a4,x4,n4⟩:=pX (n:=2) (st:=s) (he.ll hll) (r:=oU ([],0)) (row:=oU x) (v:=.agg (oU x).toArray) (lU _) rfl rfl rfl
   have e4':(s.new (.cells [.string ⟨#[]⟩,.int .i64 0] 0)).eH s.next 0 2 (.agg (oU x).toArray)=some s4:=e4
   have he4:=he.trans x4
   have l6:s4.ld s.next 0=some (.string (mkS x.1)):=a4.ld
   have hw1:=ru (i:=j) (by omega)
   rw [drop_cons hg,List.any_cons]
   cases is with
   | true=>
     obtain ⟨s2,f1,f2⟩:=ih (j+1) true s4 (by omega) he4
     refine ⟨s2,f1,zcj _ _ _ _ _ _ _ _ _ _ _ _ _ s ?_⟩
     simp only [Zm,zdt h,cu,b1,b2',e4',bf,hw1]
     rw [f2]
     simp only [Bool.true_or]
   | false=>
     have hq:fA (mkS x.1) (mkS n)=decide (x.1=n):=DW _ _
     obtain ⟨s2,f1,f2⟩:=ih (j+1) (decide (x.1=n)) s4 (by omega) he4
     refine ⟨s2,f1,zcj _ _ _ _ _ _ _ _ _ _ _ _ _ s ?_⟩
     simp only [Zm,zdt h,cu,b1,b2',e4',bf,dn,l6,fP,hq,hw1]
     rw [f2]
     simp only [Bool.false_or]
theorem zsU [Sym] {r:Nat} {wv ev v14:Value} {times i':Int} {s':ByteArray} (es:List (List UInt8×Int)) (hsz:es.length≤255) (hall:∀ n∈Af,(es.any fun e=>decide (e.1=n))=true) (base:SS) (hll:base.lim≤base.next) (hr:At base r [wv,ev]) (hv:Rd base ev (ak oU es) 2 es.length) (h14:Rd base v14 (ak strRow Af) 1 5):∀ (k i:Nat) (s:SS),5=k+i→Ext base s→
  ∃ s2,Ext base s2∧Dh 20 [.int .i64 times,.string s',.int .i64 i',ptr r 0,v14,.int .i64 5,.int .i64 i] s=some (0,[.int .i64 times,.string s',.int .i64 i'],s2):=by
 intro k
 induction k with
 | zero=>
   intro i s hk he
   have h:¬ (i:Int)<5:=by omega
   refine ⟨s,he,zdL _ _ _ _ _ _ _ s ?_⟩
   simp only [zcL,bg h,dn]
 | succ k ih=>
   intro i s hk he
   have h:(i:Int)<5:=by omega
   have hln:Af.length=5:=rfl
   obtain ⟨n,hg⟩:∃ n,Af[i]?=some n:=⟨_,mW (by omega)⟩
   obtain ⟨p,p1,p2⟩:=NW (ls:=Af) (h14.ext he) hg
   obtain ⟨s3,v3,c3,x3,o3⟩:=zpJ s
   obtain ⟨q,q1,q2⟩:=NW (ls:=Af) o3.rd hg
   have he3:=he.trans x3
   have l7:s3.ld r (0+1)=some ev:=(hr.ext he3).ld
   have l8:(lenV ev).bind (ay .i64)=some (es.length:Int):=by rw [hv.len];rfl
   have hq:fA (mkS n) (mkS n)=true:=by rw [DW];exact zdt rfl
   obtain ⟨s9,x9,f9⟩:=zuC (r':=ptr r 0) (t70:=v14) (times:=times) (i':=i') (t71:=5) (t72:=i) (s':=s') (f:=true) (n:=n) es hsz s3 (he3.ll hll) (hv.ext he3) es.length 0 false s3 rfl (Ext.refl _)
   rw [List.drop_zero,hall n (xH hg),Bool.or_true] at f9
   have f9':Dh 25 [.int .i64 times,.string s',.int .i64 i',ptr r 0,.string (mkS n),.bool true,.bool false,v14,.int .i64 5,.int .i64 i,ev,.int .i64 es.length,.int .i64 0] s3=_:=f9
   have hw1:=ru (i:=i) (by omega)
   obtain ⟨s2,f1,f2⟩:=ih (i+1) s9 (by omega) (he3.trans x9)
   refine ⟨s2,f1,zdL _ _ _ _ _ _ _ s ?_⟩
   simp only [zcL,zdt h,cu,p1,p2,bf,fP,c3,q1,q2,fZ,l7,l8,hq]
   rw [f9',bf]
   simp only [lN,iZ,bf,eP,fP,mg,lY,dn,hw1]
   exact f2
theorem zsV [Sym] {t:List UInt8} (hs:Jp t) {ws:List Wd} {es:List (List UInt8×Int)} (ha:EM t=.ok (ws,es)) (hes:es.map (·.1)=Af) (times:Nat) (ht:times≤3):∀ (k i:Nat) (s:SS),times=k+i→Ext st0 s→
  ∃ s2,Dh 14 [.int .i64 times,.string (mkS t),.int .i64 i] s=some (0,[],s2):=by
 have hl0:st0.lim≤st0.next:=fF _
 obtain ⟨hwd,hwl⟩:=ztt ha
 obtain ⟨_,hee⟩:=ztu ha
 have hlen:es.length=5:=by have:=congrArg List.length hes;rw [List.length_map] at this;exact this
 have hmem:∀ e∈es,e.1∈Af:=fun e he=>by rw [← hes];exact List.mem_map_of_mem he
 have hG:∀ l∈Af,NV l=true:=by decide
 have hD:∀ i∈List.range 5,∀ j∈List.range i,Af[j]?≠Af[i]?:=by decide
 have hat:∀ (i:Nat) e,es[i]?=some e→Af[i]?=some e.1:=fun i e h=>by rw [← hes,List.getElem?_map,h];rfl
 have hnd:∀ (i j:Nat) x e,j<i→es[j]?=some x→es[i]?=some e→x.1≠e.1:=fun i j x e hj hx he hh=>by
  have hi:i<5:=by have:=(List.getElem?_eq_some_iff.1 he).1;omega
  exact hD i (List.mem_range.2 hi) j (List.mem_range.2 hj) (by rw [hat j x hx,hat i e he,hh])
 have hall:∀ n∈Af,(es.any fun e=>decide (e.1=n))=true:=fun n hn=>by
  rw [← hes] at hn
  obtain ⟨e,he,rfl⟩:=List.mem_map.1 hn
  exact List.any_eq_true.2 ⟨e,he,zdt rfl⟩
 intro k
 induction k with
 | zero=>
   intro i s hk he
   have h:¬ (i:Int)<(times:Int):=by omega
   refine ⟨s,zdK _ _ _ s ?_⟩
   simp only [zcK,bg h,dn]
 | succ k ih=>
   intro i s hk he
   have h:(i:Int)<(times:Int):=by omega
   have tu0:∀ (a b:Value),fM (.tuple #[a,b]) 0=some a:=fun _ _=>rfl
   have tu1:∀ (a b:Value),fM (.tuple #[a,b]) 1=some b:=fun _ _=>rfl
   obtain ⟨s1,wv,ev,c1,x1,o1,o2⟩:=zym hs ha (gd0.ext he) (he.ll hl0)
   have y1:=he.trans x1
   obtain ⟨s5,e5,a5,x5,n5⟩:=pX (n:=2) (st:=s1) (y1.ll hl0) (r:=NN) (row:=[wv,ev]) (v:=CW wv ev) rfl rfl (by simp [(Own.cell o1).2,(Own.cell o2).2]) rfl
   have e5':(s1.new (.cells [.slice none 0 0,.slice none 0 0] 0)).eH s1.next 0 2 (CW wv ev)=some s5:=e5
   have y5:=y1.trans x5
   obtain ⟨s6,c6,x6⟩:=hs.src s5
   have y6:=y5.trans x6
   have hq:fA (mkS t) (mkS t)=true:=by rw [DW];exact zdt rfl
   have l8:s6.eF s1.next 0 2=some (CW wv ev):=(a5.ext x6).eF rfl
   have z6:=x5.trans x6
   obtain ⟨s9,c9,x9⟩:=V3 hs.len ha (y6.ll hl0) (o1.ext z6).rd (o2.ext z6).rd (Own.cell o1).2 (Own.cell o2).2
   have y9:=y6.trans x9
   have z9:=z6.trans x9
   have tZ:s9.eF s1.next 0 2=some (CW wv ev):=(a5.ext (x6.trans x9)).eF rfl
   obtain ⟨s12,c12,x12⟩:=zxm hwl es (by omega) (by omega) (fun e h'=>⟨hG _ (hmem e h'),(hee e h').2⟩) hnd (y9.ll hl0) (o1.ext z9).rd (o2.ext z9)
   have y12:=y9.trans x12
   have c14:cc 32 [] s12=some (.slice (some ⟨s12.next,0,none⟩) 5 5,s12.new (.cells (ak strRow Af) 1)):=zjA s12 rfl
   have o14:Own s12.next (s12.new (.cells (ak strRow Af) 1)) (.slice (some ⟨s12.next,0,none⟩) 5 5) (ak strRow Af) 1 5:=TP rfl (by omega)
   have x14:Ext s12 (s12.new (.cells (ak strRow Af) 1)):=(Ext.refl _).new _
   obtain ⟨s14,hs14⟩:∃ s14,s12.new (.cells (ak strRow Af) 1)=s14:=⟨_,rfl⟩
   rw [hs14] at c14 o14 x14
   have y14:=y12.trans x14
   have l15:(lenV (.slice (some ⟨s12.next,0,none⟩) 5 5)).bind (ay .i64)=some 5:=rfl
   obtain ⟨s16,x16,f16⟩:=zsU (times:=times) (i':=i) (s':=mkS t) es (by omega) hall s14 (y14.ll hl0) (a5.ext (x6.trans (x9.trans (x12.trans x14)))) (o2.ext (z9.trans (x12.trans x14))).rd o14.rd 5 0 s14 rfl (Ext.refl _)
   have f16':Dh 20 [.int .i64 times,.string (mkS t),.int .i64 i,ptr s1.next 0,.slice (some ⟨s12.next,0,none⟩) 5 5,.int .i64 5,.int .i64 0] s14=some (0,[.int .i64 times,.string (mkS t),.int .i64 i],s16):=f16
   have b0:Nat.beq 0 0=true:=rfl
   have hw1:=ru (i:=i) (by omega)
   obtain ⟨s2,f2⟩:=ih (i+1) s16 (by omega) (y14.trans x16)
   refine ⟨s2,zdK _ _ _ s ?_⟩
   simp only [zcK,zdt h,cu,c1,bf,tu0,tu1,eP,e5',decide_true,lY,dn,c6,fP,hq,l8,c9,mg,tZ,c12,c14,l15]
   rw [f16',bf]
   simp only [b0,cu,lN,iZ,bf,eP,fP,hw1]
   exact f2
theorem zsW [Sym] {t:List UInt8} (hs:Jp t) {ws:List Wd} {es:List (List UInt8×Int)} (ha:EM t=.ok (ws,es)) (hes:es.map (·.1)=Af) {ls:List (List UInt8)} (hls:ls.flatten=t) (hlen:ls.length=9) (hnl:∀ x∈ls,x[x.length-1]?=some 10)
  (hp:∀ st:SS,∃ s' v,cc 27 [] st=some (v,s')∧Ext st s'∧Own st.next s' v (ak strRow ls) 1 9) (times:Int):∃ st',cc 7 [.int .i64 times] st0=some (.bool true,st'):=by
 have hl0:st0.lim≤st0.next:=fF _
 obtain ⟨s1,hal,x1⟩:=zxj st0
 by_cases h1:times<1
 ·refine ⟨s1,zcY _ st0 ?_⟩
  simp only [Y8,hal,bf,mg,lY,dn,zdt h1,cu]
 by_cases h2:3<times
 ·refine ⟨s1,zcY _ st0 ?_⟩
  simp only [Y8,hal,bf,mg,lY,dn,bg h1,zdt h2,cu]
 obtain ⟨n,rfl⟩:∃ n:Nat,times=(n:Int):=⟨times.toNat,by omega⟩
 obtain ⟨s3,v,c3,x3,o3⟩:=hp s1
 have l4:(lenV v).bind (ay .i64)=some 9:=by rw [o3.len];rfl
 have hr3:Rd s3 v (ak strRow ls) 1 ls.length:=by rw [hlen];exact o3.rd
 have f5:=zsS (times:=n) hr3 (by omega) hnl 9 0 [] (by omega) (by rw [List.drop_zero,hls,List.length_nil];have:=hs.len;omega)
 rw [List.drop_zero,List.nil_append,hls,hlen] at f5
 have f5':Dh 7 [.int .i64 n,.string ⟨#[]⟩,v,.int .i64 9,.int .i64 0] s3=some (0,[.int .i64 n,.string (mkS t)],s3):=f5
 obtain ⟨s8,f8⟩:=zsV hs ha hes n (by omega) n 0 s3 rfl (x1.trans x3)
 have f8':Dh 14 [.int .i64 n,.string (mkS t),.int .i64 0] s3=some (0,[],s8):=f8
 have b0:Nat.beq 0 0=true:=rfl
 refine ⟨s8,zcY _ st0 ?_⟩
 simp only [Y8,hal,bf,mg,lY,dn,bg h1,bg h2,c3,l4]
 rw [f5',bf]
 simp only [b0,cu,lN,iZ,bf,eP,fP]
 rw [f8',bf]
 simp only [b0,cu]
theorem zxn:(Rl.all fun x=>decide (x[x.length-1]?=some 10))=true:=by kernel_rfl
theorem ucodeBuilds_ok [Sym] (times:Int):∃ st',cc 7 [.int .i64 times] st0=some (.bool true,st'):=by
 obtain ⟨ws,es,h1,h2,h3⟩:=zyl
 refine zsW ⟨zqU,zwh⟩ h1 h3 (ls:=Rl) rfl rfl (fun x hx=>?_) zqT times
 exact of_decide_eq_true (List.all_eq_true.1 zxn x hx)
end Go.Proofs.YtifploedaacedaaGreatDoorE
