/- Parts of the proof of UasmBuilds, packed by a program: an evaluator over the given code, functions as plain texts, their laws. -/
import Derived.Test.YtifploedaacedaaGreatDoorPBE
set_option linter.unusedVariables false
set_option linter.unusedSimpArgs false
namespace Go.Proofs.YtifploedaacedaaGreatDoorE
open Go Go.E Go.Proofs
theorem zun (ps:List (List UInt8)) (i:Nat) (e:Nat×Nat) (h:zco i ps=.error e):0<e.1:=by
 induction ps generalizing i with
 | nil=>cases h
 | cons p r ih=>
   unfold zco at h
   split at h
   ·cases h;exact Nat.succ_pos _
   ·split at h
    ·rename_i hz;cases h;exact ih _ hz
    ·cases h
theorem zrl (ps:List (List Tok)) (i:Nat) (e:Nat×Nat) (h:zbO i ps=.error e):0<e.1:=by
 induction ps generalizing i with
 | nil=>cases h
 | cons p r ih=>
   unfold zbO at h
   split at h
   ·cases h;exact Nat.succ_pos _
   ·split at h
    ·rename_i hz;cases h;exact ih _ hz
    ·cases h
theorem zuo {l:List UInt8} {e:Nat×Nat} (h:zfs l=.error e):0<e.1:=by
 unfold zfs at h
 split at h
 ·rename_i hz;cases h;exact zun _ _ _ hz
 ·exact zrl _ _ _ h
def w12 (w:Wd):List Value:=(List.range 12).map fun k=>.int .i64 (w.getD k 0)
theorem zmx (w:Wd):(w12 w).length=12:=by simp [w12]
theorem zwm (w:Wd):(w12 w).all one=true:=by simp [w12,one]
theorem zup {w:Wd} (h:w.length=12):w12 w=wRow w:=by
 obtain ⟨a,b,c,d,e,f,g,i,j,k,l,m,rfl⟩:=zsx h
 rfl
theorem zwn (n:Nat):zdO Z12 (n:Int)=rowsF w12 (List.replicate n zaG):=by
 have h1:∀ k,k<12→(Z12.toArray[k]! :Value)=.int .i64 0:=by
  intro k hk
  match k,hk with
  | 0,_=>rfl
  | 1,_=>rfl
  | 2,_=>rfl
  | 3,_=>rfl
  | 4,_=>rfl
  | 5,_=>rfl
  | 6,_=>rfl
  | 7,_=>rfl
  | 8,_=>rfl
  | 9,_=>rfl
  | 10,_=>rfl
  | 11,_=>rfl
 have h2:zdO Z12 (n:Int)=List.replicate (n*12) (.int .i64 0):=by
  unfold zdO
  rw [Int.toNat_natCast,show Z12.length=12 from rfl]
  apply List.ext_getElem
  ·simp
  ·intro i a b
   simp only [Array.toList_map,Array.toList_range,List.getElem_map,List.getElem_range,List.getElem_replicate]
   exact h1 _ (Nat.mod_lt _ (by omega))
 rw [h2]
 clear h2
 induction n with
 | zero=>rfl
 | succ n ih=>
   rw [List.replicate_succ,zdh,← ih,Nat.add_mul,Nat.add_comm,← List.replicate_append_replicate]
   rfl
def RAsmL (base st0:SS) (B b t4:Nat) (res:Option (Nat×List Value×SS)):Except (Nat×Nat) Lay→Prop
 | .error e=>∃ s',res=some (1,[.slice none 0 0,.slice none 0 0,ptr t4 0],s')∧Ext base s'∧At s' t4 [.int .i64 e.1,.int .i64 e.2]
 | .ok l=>∃ s' v its,res=some (0,[ptr t4 0,ptr b 0],s')∧Rld st0 s' B b v l its
theorem zvl [Sym] {base st0:SS} {B b M:Nat} (hM:M≤100000) (items:List Item) (hits:items.length≤99999) (hok:∀ x∈items,LineOk M x.1∧0<x.1.ln) (v:Value) (hv:Rd st0 v (rowsF lnRow items) 5 items.length)
  (hrd:∀ x∈items,Rd st0 x.2.1 (rowsF valRow x.1.args) 3 x.1.args.length∧Rd st0 x.2.2 (rowsF prRow x.1.prs) 5 x.1.prs.length) (hx0:Ext base st0) (hb2:base.next+1≤st0.next) (a4:At st0 base.next Z2):
  ∀ (k j:Nat) (l:Lay) (vv:V6) (its:List WItem) (s:SS),items.length=k+j→Rld st0 s B b vv l its→LayOk M l→l.ents.length≤j→l.nms.length≤2*j→
  RAsmL base st0 B b base.next (zaf 6 [ptr base.next 0,ptr b 0,v,.int .i64 items.length,.int .i64 j] s) (zeh l ((items.drop j).map (·.1))):=by
 intro k
 induction k with
 | zero=>
   intro j l vv its s hk hB hL hen hnm
   have h:¬ (j:Int)<(items.length:Int):=by omega
   rw [List.drop_of_length_le (by omega)]
   refine ⟨s,vv,its,zcM _ _ _ _ _ s ?_,hB⟩
   simp only [zcs,zdf h,zcf]
 | succ k ih=>
   intro j l vv its s hk hB hL hen hnm
   have h:(j:Int)<(items.length:Int):=by omega
   obtain ⟨x,hx⟩:∃ x,items[j]?=some x:=⟨_,zge (by omega)⟩
   have hmem:=zmg hx
   have hd:=drop_cons hx
   have hil:its.length≤2048:=by
    have h1:=hL.wlen
    have h2:=hL.pl
    rw [← hB.wds,List.length_map] at h1
    omega
   obtain ⟨p1,b1,b2,_⟩:=(hv.ext hB.ext).load (j:=(j:Int)) (by omega) h (zaW (f:=lnRow) (z:=5) (fun _=>rfl) items j x hx) rfl
   have b2':s.ldN p1.1 p1.2 5=some (.agg (lnRow x).toArray):=b2
   have ho:one x.2.1=true∧one x.2.2=true:=⟨zhM (hrd x hmem).1,zhM (hrd x hmem).2⟩
   obtain ⟨s4,e4,c4,x4,n4⟩:=zaO (n:=5) (st:=s) hB.llm (r:=lnRow (⟨0,[],[],[],[]⟩,.slice none 0 0,.slice none 0 0)) (row:=lnRow x) (v:=.agg (lnRow x).toArray) (zaC _) rfl (by
    simp only [lnRow,List.all_cons,List.all_nil,ho.1,ho.2]
    rfl) rfl
   have e4':(s.new (.cells [.int .i64 0,.string ⟨#[]⟩,.string ⟨#[]⟩,.slice none 0 0,.slice none 0 0] 0)).stV s.next 0 5 (.agg (lnRow x).toArray)=some s4:=e4
   have l5:s4.ldN s.next 0 5=some (.agg (lnRow x).toArray):=c4.ldN rfl
   have h4:=hB.then x4
   have hf:=zum h4 x (hrd x hmem) hL.pl (by omega) (by omega) (by omega) (by have:=(hok x hmem).1.sa;omega)
   have hL6:zeh l ((items.drop j).map (·.1))=match zg1 l x.1 with
    | none=>.error (x.1.ln,1)
    | some l'=>zeh l' ((items.drop (j+1)).map (·.1)):=by rw [hd];rfl
   rw [hL6]
   cases hln:zg1 l x.1 with
   | none=>
     rw [hln] at hf
     obtain ⟨s6,L6,c6,f6⟩:=hf
     have hbb:st0.next≤B:=by have:=hB.b0;have:=hB.bB;omega
     have a46:At s6 s.next (lnRow x):=f6.at c4 (by have:=hB.bB;have:=hB.BN;omega) (hB.ow.freeN (zlr _))
     have a26:At s6 base.next Z2:=f6.at (a4.ext h4.ext) (by have:=hB.b0;omega) (hB.ow.free (by omega))
     have x6:Ext base s6:=f6.toExt (hx0.trans h4.ext) (by have:=hB.b0;omega) h4.ow (by omega)
     have l8:s6.ld s.next 0=some (.int .i64 x.1.ln):=a46.ld
     obtain ⟨s10,e10,a10,m10,n10⟩:=a26.sto (k:=0) (vs:=[.int .i64 x.1.ln,.int .i64 1]) (row':=[.int .i64 x.1.ln,.int .i64 1]) rfl rfl
     refine ⟨s10,zcM _ _ _ _ _ s ?_,zax x6 m10 (zlr _),a10⟩
     simp only [zcs,zdt h,zct,b1,b2',e4',l5,c6,zob,zal,znf,l8,zaa,zac,e10]
   | some l'=>
     rw [hln] at hf
     obtain ⟨s6,v',its',c6,h6,_⟩:=hf
     obtain ⟨g1,g2⟩:=znv hL (hok x hmem).1 (hok x hmem).2 hln
     have g3:=zpu hln
     have next:=ih (j+1) l' v' its' s6 (by omega) h6 g1 (by omega) (by omega)
     have hw1:=za4 (i:=j) (by omega)
     have step:∀ z,zaf 6 [ptr base.next 0,ptr b 0,v,.int .i64 items.length,.int .i64 ((j+1:Nat):Int)] s6=some z→zaf 6 [ptr base.next 0,ptr b 0,v,.int .i64 items.length,.int .i64 j] s=some z:=fun z hz=>by
      refine zcM _ _ _ _ _ s ?_
      simp only [zcs,zdt h,zct,b1,b2',e4',l5,c6,zob,zal,znt,zcf,hw1]
      exact hz
     simp only
     cases hz:zeh l' ((items.drop (j+1)).map (·.1)) with
     | error e=>
       rw [hz] at next
       obtain ⟨s',d1,d2⟩:=next
       exact ⟨s',step _ d1,d2⟩
     | ok l2=>
       rw [hz] at next
       obtain ⟨s',w3,w4,d1,d2⟩:=next
       exact ⟨s',w3,w4,step _ d1,d2⟩
theorem zuq [Sym] {base0 base st0:SS} (hx0:Ext base st0) (hll:base.lim≤base.next) (hbb:Ext base0 base) {T:List (Int×Int)} (hT:∀ t∈T,0≤t.1∧t.1≤100000∧0≤t.2∧t.2≤100000) (hTl:T.length≤10) {x:Item} {b' w' t69 v wv:Value} {i' n j:Int} {t4 xb N:Nat}
  (hN:(lenV wv).bind (asI .i64)=some (N:Int)) (a4:At st0 t4 Z2) (ax:At st0 xb (lnRow x)) (h4:base0.next≤t4) (p0:Pr) (ps:List Pr) (hps:x.1.prs=p0::ps) (hp:Rd base x.2.2 (rowsF prRow x.1.prs) 5 x.1.prs.length)
  (hv:Rd st0 v (rowsF zcn T) 2 T.length):∀ (k i:Nat) (s:SS),T.length=k+i→Ext st0 s→
  ∃ s',if inR N (T.drop i)=true then zaf 21 [ptr t4 0,b',wv,.int .i64 i',ptr xb 0,w',t69,.int .i64 n,.int .i64 j,v,.int .i64 T.length,.int .i64 i] s=some (1,[.slice none 0 0,.slice none 0 0,ptr t4 0],s')∧Ext base0 s'∧At s' t4 [.int .i64 x.1.ln,.int .i64 p0.col]
   else zaf 21 [ptr t4 0,b',wv,.int .i64 i',ptr xb 0,w',t69,.int .i64 n,.int .i64 j,v,.int .i64 T.length,.int .i64 i] s=some (0,[ptr t4 0,b',wv,.int .i64 i',w',t69,.int .i64 n,.int .i64 j],s')∧Ext st0 s':=by
 intro k
 induction k with
 | zero=>
   intro i s hk he
   have h:¬ (i:Int)<(T.length:Int):=by omega
   rw [List.drop_of_length_le (by omega)]
   refine ⟨s,?_⟩
   rw [if_neg (by simp [inR])]
   refine ⟨zcB _ _ _ _ _ _ _ _ _ _ _ _ s ?_,he⟩
   simp only [zcd,zdf h,zcf]
 | succ k ih=>
   intro i s hk he
   have h:(i:Int)<(T.length:Int):=by omega
   obtain ⟨t,ht⟩:∃ t,T[i]?=some t:=⟨_,zge (by omega)⟩
   obtain ⟨q1,q2,q3,q4⟩:=hT t (zmg ht)
   obtain ⟨p,b1,b2,_⟩:=(hv.ext he).load (j:=(i:Int)) (by omega) h (zaW (f:=zcn) (z:=2) (fun _=>rfl) T i t ht) rfl
   have b2':s.ldN p.1 p.2 2=some (.agg (zcn t).toArray):=b2
   have hlm:s.lim≤s.next:=((hx0.trans he).ll hll)
   obtain ⟨s4,e4,c4,x4,n4⟩:=zaO (st:=s) hlm (r:=Z2) (row:=zcn t) (v:=.agg (zcn t).toArray) (zaC _) rfl rfl rfl
   have e4':(s.new (.cells [.int .i64 0,.int .i64 0] 0)).stV s.next 0 2 (.agg (zcn t).toArray)=some s4:=e4
   have he4:=he.trans x4
   have c5:zbl (ptr s.next 0) 2 0 1=some (s.next,0):=rfl
   have c7:zbl (ptr s.next 0) 2 1 1=some (s.next,1):=rfl
   have l6:s4.ld s.next 0=some (.int .i64 t.1):=c4.ld
   have l8:s4.ld s.next 1=some (.int .i64 t.2):=c4.ld
   have hw9:IntKind.wrap .i64 (t.1+t.2)=t.1+t.2:=wrap64 (by omega) (by omega)
   have hd:=drop_cons ht
   by_cases hc:(N:Int)<t.1+t.2
   ·obtain ⟨p17,f1,_,f3⟩:=((hp.ext hx0).ext he4).load (j:=(0:Int)) (by omega) (by rw [hps];simp) (row:=prRow p0) (by rw [hps];rfl) rfl
    have l18:s4.ld p17.1 (p17.2+1)=some (.int .i64 p0.col):=f3 1 (by omega)
    have l14:s4.ld xb 0=some (.int .i64 x.1.ln):=(ax.ext he4).ld
    have l16:s4.ld xb (0+4)=some x.2.2:=(ax.ext he4).ld
    obtain ⟨s22,e22,a22,m22,n22⟩:=(a4.ext he4).sto (k:=0) (vs:=[.int .i64 x.1.ln,.int .i64 p0.col]) (row':=[.int .i64 x.1.ln,.int .i64 p0.col]) rfl rfl
    refine ⟨s22,?_⟩
    rw [if_pos (by unfold inR;rw [hd,List.any_cons,zdt hc];rfl)]
    refine ⟨zcB _ _ _ _ _ _ _ _ _ _ _ _ s ?_,zax (hbb.trans (hx0.trans he4)) m22 h4,a22⟩
    simp only [zcd,zdt h,zct,b1,b2',e4',c5,c7,l6,l8,zob,zaa,hw9,zac,hN,zdt hc,l14,l16,f1,l18,e22]
   ·obtain ⟨s',hs'⟩:=ih (i+1) s4 (by omega) he4
    have hw1:=za4 (i:=i) (by omega)
    refine ⟨s',?_⟩
    have e:inR N (T.drop i)=inR N (T.drop (i+1)):=by unfold inR;rw [hd,List.any_cons,zdf hc,Bool.false_or]
    rw [e]
    have go:∀ z,zaf 21 [ptr t4 0,b',wv,.int .i64 i',ptr xb 0,w',t69,.int .i64 n,.int .i64 j,v,.int .i64 T.length,.int .i64 ((i+1:Nat):Int)] s4=some z→zaf 21 [ptr t4 0,b',wv,.int .i64 i',ptr xb 0,w',t69,.int .i64 n,.int .i64 j,v,.int .i64 T.length,.int .i64 i] s=some z:=fun z hz=>by
     refine zcB _ _ _ _ _ _ _ _ _ _ _ _ s ?_
     simp only [zcd,zdt h,zct,b1,b2',e4',c5,c7,l6,l8,zob,zaa,hw9,hN,zdf hc,zcf,hw1]
     exact hz
    split
    ·rename_i hh
     rw [if_pos hh] at hs'
     exact ⟨go _ hs'.1,hs'.2⟩
    ·rename_i hh
     rw [if_neg hh] at hs'
     exact ⟨go _ hs'.1,hs'.2⟩
def RLayW (base0 base:SS) (t4 N:Nat) (b' wv:Value) (res:Option (Nat×List Value×SS)):Except (Nat×Nat) (List Wd)→Prop
 | .error e=>∃ s',res=some (1,[.slice none 0 0,.slice none 0 0,ptr t4 0],s')∧Ext base0 s'∧At s' t4 [.int .i64 e.1,.int .i64 e.2]
 | .ok ws=>∃ s',res=some (0,[ptr t4 0,b',wv],s')∧Ext base s'∧Own base.next s' wv (rowsF w12 ws) 12 N∧ws.length=N
theorem zur [Sym] {base0 st0 base:SS} {B b M t4:Nat} {v:V6} {wv:Value} {l:Lay} {its:List WItem} (hB:Rld st0 base B b v l its) (hL:LayOk M l) (hM:M≤100000) (hnm:l.nms.length≤1000000) (hbb:Ext base0 base) (h4:base0.next≤t4) (a4:At base t4 Z2)
  (hN:(lenV wv).bind (asI .i64)=some ((sizeT l:Nat):Int)):∀ (k j:Nat) (ws:List Wd) (s:SS),its.length=k+j→ws.length=sizeT l→Ext base s→Own base.next s wv (rowsF w12 ws) 12 (sizeT l)→
  RLayW base0 base t4 (sizeT l) (ptr b 0) wv (zaf 15 [ptr t4 0,ptr b 0,wv,v.l,.int .i64 its.length,.int .i64 j] s) (zcm l.nms (sizeT l) (l.wds.drop j) ws):=by
 have hll:base.lim≤base.next:=hB.llm
 have hil:its.length≤2048:=by
  have h1:=hL.wlen
  have h2:=hL.pl
  rw [← hB.wds,List.length_map] at h1
  omega
 obtain ⟨hat,hNb⟩:=ziM hL
 intro k
 induction k with
 | zero=>
   intro j ws s hk hws he ow
   have h:¬ (j:Int)<(its.length:Int):=by omega
   have hd:l.wds.drop j=[]:=List.drop_of_length_le (by rw [← hB.wds,List.length_map];omega)
   rw [hd]
   refine ⟨s,zbQ _ _ _ _ _ _ s ?_,he,ow,hws⟩
   simp only [zbJ,zdf h,zcf]
 | succ k ih=>
   intro j ws s hk hws he ow
   have h:(j:Int)<(its.length:Int):=by omega
   obtain ⟨x,hx⟩:∃ x,its[j]?=some x:=⟨_,zge (by omega)⟩
   have hwx:l.wds[j]?=some (x.1,x.2.1):=by rw [← hB.wds,List.getElem?_map,hx];rfl
   have hmem:=zmg hwx
   obtain ⟨hlo,hpne,hln⟩:=hL.prs _ hmem
   have hxat:x.1<sizeT l:=hat _ hmem
   have hd:=drop_cons hwx
   obtain ⟨p0,ps,hps⟩:∃ p0 ps,x.2.1.prs=p0::ps:=by
    cases hp:x.2.1.prs with
    | nil=>exact absurd hp hpne
    | cons a r=>exact ⟨a,r,rfl⟩
   have hsb:=hB.then he
   have hlm:s.lim≤s.next:=he.ll hll
   obtain ⟨p1,b1,b2,_⟩:=(hsb.ow.own 2 _ rfl).rd.load (j:=(j:Int)) (by omega) h (zaW (f:=lnR) (z:=5) (fun _=>rfl) its j x hx) rfl
   have b2':s.ldN p1.1 p1.2 5=some (.agg (lnRow x.2).toArray):=b2
   obtain ⟨hr1,hr2⟩:=hB.itr x (zmg hx)
   obtain ⟨s4,e4,c4,x4,n4⟩:=zaO (n:=5) (st:=s) hlm (r:=lnRow (⟨0,[],[],[],[]⟩,.slice none 0 0,.slice none 0 0)) (row:=lnRow x.2) (v:=.agg (lnRow x.2).toArray) (zaC _) rfl (by
    simp only [lnRow,List.all_cons,List.all_nil,zhM hr1,zhM hr2]
    rfl) rfl
   have e4':(s.new (.cells [.int .i64 0,.string ⟨#[]⟩,.string ⟨#[]⟩,.slice none 0 0,.slice none 0 0] 0)).stV s.next 0 5 (.agg (lnRow x.2).toArray)=some s4:=e4
   have he4:=he.trans x4
   have hsb4:=hB.then he4
   have l5:s4.ldN s.next 0 5=some (.agg (lnRow x.2).toArray):=c4.ldN rfl
   have hprb:=hr2.ext hB.ext
   have on:Rd s4 v.n (strs (l.nms.map (·.1))) 1 (l.nms.map (·.1)).length:=by
    have:=(hsb4.ow.own 0 _ rfl).rd
    rw [znx] at this
    rw [List.length_map]
    exact this
   obtain ⟨n6,u,hn6,hu,huo,c6⟩:=zvk l.nms hL.nms hnm x.2 (zqN hlo (by omega)) b _ v.n v.m s4 hsb4.row.1 hsb4.row.lt on (hsb4.ow.own 1 _ rfl).rd (hprb.ext he4)
   have x6:Ext s4 (s4.adv n6):=(Ext.refl _).adv hn6
   have he6:=he4.trans x6
   obtain ⟨s10,e10,a10,x10,n10⟩:=zaO (n:=12) (st:=s4.adv n6) (he6.ll hll) (r:=Z12) (row:=wRow u) (v:=wV u) (zaC _) (by rw [zaK,hu]) (zcK u) rfl
   have e10':((s4.adv n6).new (.cells [.int .i64 0,.int .i64 0,.int .i64 0,.int .i64 0,.int .i64 0,.int .i64 0,.int .i64 0,.int .i64 0,.int .i64 0,.int .i64 0,.int .i64 0,.int .i64 0] 0)).stV n6 0 12 (wV u)=some s10:=e10
   have he10:=he6.trans x10
   have he4_10:Ext s4 s10:=x6.trans x10
   have a4_10:=c4.ext he4_10
   have t0:∀ (a:Value) (z:Int),zan (.tuple #[a,.int .i64 z]) 0=some a:=fun _ _=>rfl
   have t1:∀ (a:Value) (z:Int),(zan (.tuple #[a,.int .i64 z]) 1).bind (asI .i64)=some z:=fun _ _=>rfl
   have hE:zcm l.nms (sizeT l) (l.wds.drop j) ws=if (zaQ l.nms zaG x.2.1.prs).2≠0 then .error (x.2.1.ln,(zaQ l.nms zaG x.2.1.prs).2)
    else if inR (sizeT l) (zbU ((zaQ l.nms zaG x.2.1.prs).1.getD 8 0) ((zaQ l.nms zaG x.2.1.prs).1.getD 10 0) x.1)=true then .error (x.2.1.ln,((x.2.1.prs.head?).map (·.col)).getD 0)
    else zcm l.nms (sizeT l) (l.wds.drop (j+1)) (ws.set x.1 (zaQ l.nms zaG x.2.1.prs).1):=by rw [hd];rfl
   by_cases hc:(zaQ l.nms zaG x.2.1.prs).2=0
   ·rw [if_neg (fun hh=>hh hc)] at hE
    have hcz:¬ (0:Int)<(((zaQ l.nms zaG x.2.1.prs).2:Nat):Int):=by omega
    have hue:=huo hc
    have hwok:=zoU l.nms x.2.1.prs
    generalize hw:(zaQ l.nms zaG x.2.1.prs).1=w at*
    subst hue
    have hnl:zak (ptr b 0)=some (ptr b 0):=rfl
    have l14:s10.ldN n6 0 12=some (wV u):=a10.ldN (by rw [zaK,hu])
    have hsb10:=hB.then he10
    have l17:s10.ld b (0+3)=some v.p:=hsb10.row.ld
    obtain ⟨p18,d1,_,d3⟩:=(hsb10.ow.own 3 _ rfl).rd.load (j:=(j:Int)) (by omega) h (zaW (f:=plR) (z:=1) (fun _=>rfl) its j x hx) rfl
    have l19:s10.ld p18.1 p18.2=some (.int .i64 x.1):=d3 0 (show 0<1 by omega)
    have hto:=zrS hwok
    obtain ⟨v20,s20,c20,x20,o20⟩:=ztL u (x.1:Int) (u.getD 8 0) (u.getD 10 0) (getD_some (by omega)) (getD_some (by omega)) (by omega) (by omega) s10 (he10.ll hll)
    have he20:=he10.trans x20
    have hT:=zl9 (s:=u.getD 8 0) (a:=(x.1:Int)) (by omega) hto
    have hTl:(zbU (u.getD 8 0) (u.getD 10 0) (x.1:Int)).length≤10:=by
     unfold zbU
     repeat' split
     all_goals simp
    have xs20:Ext s s20:=(x4.trans he4_10).trans x20
    obtain ⟨s22,h22⟩:=zuq (b':=ptr b 0) (w':=ptr n6 0) (t69:=v.l) (i':=j) (n:=its.length) (j:=j) he20 hll hbb hT hTl (x:=x.2) (N:=sizeT l) hN (a4.ext he20) (a4_10.ext x20) h4 p0 ps hps hprb o20.rd _ 0 s20 rfl (Ext.refl _)
    rw [List.drop_zero] at h22
    have hlen:(lenV v20).bind (asI .i64)=some ((zbU (u.getD 8 0) (u.getD 10 0) (x.1:Int)).length:Int):=by rw [o20.len];rfl
    have b0:Nat.beq 0 0=true:=rfl
    have b1':Nat.beq 1 0=false:=rfl
    by_cases hr:inR (sizeT l) (zbU (u.getD 8 0) (u.getD 10 0) (x.1:Int))=true
    ·rw [if_pos hr] at hE h22
     rw [hE]
     obtain ⟨g1,g2,g3⟩:=h22
     have g1':zaf 21 [ptr t4 0,ptr b 0,wv,.int .i64 j,ptr s.next 0,ptr n6 0,v.l,.int .i64 its.length,.int .i64 j,v20,.int .i64 (zbU (u.getD 8 0) (u.getD 10 0) (x.1:Int)).length,.int .i64 0] s20=_:=g1
     refine ⟨s22,zbQ _ _ _ _ _ _ s ?_,g2,by rw [hps];exact g3⟩
     simp only [zbJ,zdt h,zct,b1,b2',e4',l5,c6,t0,t1,zob,SS.adv_next,e10',zdf hcz,zcf,l14,hnl,zac,l17,d1,l19,zaa,c20,hlen]
     rw [g1',zob]
     simp only [b1',zcf,zob,zgs,zgz]
    ·rw [if_neg hr] at hE h22
     rw [hE]
     obtain ⟨g1,g2⟩:=h22
     have g1':zaf 21 [ptr t4 0,ptr b 0,wv,.int .i64 j,ptr s.next 0,ptr n6 0,v.l,.int .i64 its.length,.int .i64 j,v20,.int .i64 (zbU (u.getD 8 0) (u.getD 10 0) (x.1:Int)).length,.int .i64 0] s20=_:=g1
     have he22:=he20.trans g2
     have xs22:=xs20.trans g2
     have hsb22:=hB.then he22
     have l33:s22.ld b (0+3)=some v.p:=hsb22.row.ld
     obtain ⟨p34,f1,_,f3⟩:=(hsb22.ow.own 3 _ rfl).rd.load (j:=(j:Int)) (by omega) h (zaW (f:=plR) (z:=1) (fun _=>rfl) its j x hx) rfl
     have l35:s22.ld p34.1 p34.2=some (.int .i64 x.1):=f3 0 (show 0<1 by omega)
     have l37:s22.ldN n6 0 12=some (wV u):=(a10.ext (x20.trans g2)).ldN (by rw [zaK,hu])
     obtain ⟨iw,s39,k1,k2,k3,k4,k5,k6,k7,k8⟩:=Own.put (f:=w12) zmx (ow.ext xs22) hws (by rw [he22.lim];exact hll) hxat u (zwm u)
     have k5':s22.stV iw (x.1*12) 12 (wV u)=some s39:=k5 _ (by rw [zup hu];exact zaC _)
     have next:=ih (j+1) (ws.set x.1 u) s39 (by omega) (by rw [List.length_set,hws]) (zax he22 k7 k2) k6
     have hw1:=za4 (i:=j) (by omega)
     have step:∀ z,zaf 15 [ptr t4 0,ptr b 0,wv,v.l,.int .i64 its.length,.int .i64 ((j+1:Nat):Int)] s39=some z→zaf 15 [ptr t4 0,ptr b 0,wv,v.l,.int .i64 its.length,.int .i64 j] s=some z:=fun z hz=>by
      refine zbQ _ _ _ _ _ _ s ?_
      simp only [zbJ,zdt h,zct,b1,b2',e4',l5,c6,t0,t1,zob,SS.adv_next,e10',zdf hcz,zcf,l14,hnl,zac,l17,d1,l19,zaa,c20,hlen]
      rw [g1',zob]
      simp only [b0,zct,zob,zgs,zgz,zaa,hnl,zac,l33,f1,l35,l37,k1,k5',hw1]
      exact hz
     cases hz:zcm l.nms (sizeT l) (l.wds.drop (j+1)) (ws.set x.1 u) with
     | error e=>
       rw [hz] at next
       obtain ⟨s',d1,d2⟩:=next
       exact ⟨s',step _ d1,d2⟩
     | ok ws'=>
       rw [hz] at next
       obtain ⟨s',d1,d2⟩:=next
       exact ⟨s',step _ d1,d2⟩
   ·rw [if_pos hc] at hE
    rw [hE]
    have hcz:(0:Int)<(((zaQ l.nms zaG x.2.1.prs).2:Nat):Int):=by omega
    have l11:s10.ld s.next 0=some (.int .i64 x.2.1.ln):=a4_10.ld
    obtain ⟨s13,e13,a13,m13,n13⟩:=(a4.ext he10).sto (k:=0) (vs:=[.int .i64 x.2.1.ln,.int .i64 (zaQ l.nms zaG x.2.1.prs).2]) (row':=[.int .i64 x.2.1.ln,.int .i64 (zaQ l.nms zaG x.2.1.prs).2]) rfl rfl
    refine ⟨s13,zbQ _ _ _ _ _ _ s ?_,zax (hbb.trans he10) m13 h4,a13⟩
    simp only [zbJ,zdt h,zct,b1,b2',e4',l5,c6,t0,t1,zob,SS.adv_next,e10',zdt hcz,l11,zaa,zac,e13]
end Go.Proofs.YtifploedaacedaaGreatDoorE
namespace Go.Proofs.YtifploedaacedaaGreatDoorE
open Go Go.E Go.Proofs
def RLayE (base0 base:SS) (t4:Nat) (wv:Value) (es:List (List UInt8×Int)) (res:Option (Nat×List Value×SS)):Except (Nat×Nat) (List (List UInt8×Int))→Prop
 | .error e=>∃ s',res=some (1,[.slice none 0 0,.slice none 0 0,ptr t4 0],s')∧Ext base0 s'∧At s' t4 [.int .i64 e.1,.int .i64 e.2]
 | .ok es'=>∃ s' ev',res=some (0,[ptr t4 0,wv,ev'],s')∧Ext base s'∧Own base.next s' ev' (rowsF zce (es++es')) 2 (es++es').length
theorem zus [Sym] {base0 st0 base:SS} {B b t4 N:Nat} {v:V6} {wv:Value} {l:Lay} {its:List WItem} (hB:Rld st0 base B b v l its) (hn:l.ents.length≤100000) (hnm:l.nms.length≤1000000) (hbb:Ext base0 base) (h4:base0.next≤t4) (a4:At base t4 Z2)
  (hN:(lenV wv).bind (asI .i64)=some (N:Int)):∀ (k j:Nat) (es:List (List UInt8×Int)) (ev:Value) (s:SS),l.ents.length=k+j→es.length≤j→Ext base s→Own base.next s ev (rowsF zce es) 2 es.length→
  RLayE base0 base t4 wv es (zaf 30 [ptr t4 0,ptr b 0,wv,ev,v.e,.int .i64 l.ents.length,.int .i64 j] s) (zdB l.nms N (l.ents.drop j)):=by
 have hll:base.lim≤base.next:=hB.llm
 intro k
 induction k with
 | zero=>
   intro j es ev s hk hes he ow
   have h:¬ (j:Int)<(l.ents.length:Int):=by omega
   rw [List.drop_of_length_le (by omega)]
   refine ⟨s,ev,zbv _ _ _ _ _ _ _ s ?_,he,by rw [List.append_nil];exact ow⟩
   simp only [zbo,zdf h,zcf]
 | succ k ih=>
   intro j es ev s hk hes he ow
   have h:(j:Int)<(l.ents.length:Int):=by omega
   obtain ⟨e,hx⟩:∃ e,l.ents[j]?=some e:=⟨_,zge (by omega)⟩
   have hd:=drop_cons hx
   have hE:zdB l.nms N (l.ents.drop j)=match zbZ l.nms e.1.nm with
    | none=>.error e.2
    | some x=>if x<0∨(N:Int)≤x then .error e.2 else match zdB l.nms N (l.ents.drop (j+1)) with
      | .error z=>.error z
      | .ok es=>.ok ((e.1.nm,x)::es):=by rw [hd];rfl
   have hsb:=hB.then he
   have hlm:s.lim≤s.next:=he.ll hll
   obtain ⟨p1,b1,b2,_⟩:=(hsb.ow.own 4 _ rfl).rd.load (j:=(j:Int)) (by omega) h (zaW (f:=veR) (z:=3) (fun _=>rfl) l.ents j e hx) rfl
   have b2':s.ldN p1.1 p1.2 3=some (.agg (valRow e.1).toArray):=b2
   obtain ⟨s4,e4,c4,x4,n4⟩:=zaO (n:=3) (st:=s) hlm (r:=valRow ⟨[],0,0⟩) (row:=valRow e.1) (v:=.agg (valRow e.1).toArray) (zaC _) rfl rfl rfl
   have e4':(s.new (.cells [.string ⟨#[]⟩,.int .i64 0,.int .i64 0] 0)).stV s.next 0 3 (.agg (valRow e.1).toArray)=some s4:=e4
   have he4:=he.trans x4
   have hsb4:=hB.then he4
   have hnl:zak (ptr b 0)=some (ptr b 0):=rfl
   have l7:s4.ld b 0=some v.n:=hsb4.row.ld
   have l8:s4.ld s.next 0=some (.string (mkS e.1.nm)):=c4.ld
   have on:Rd s4 v.n (strs (l.nms.map (·.1))) 1 (l.nms.map (·.1)).length:=by
    have:=(hsb4.ow.own 0 _ rfl).rd
    rw [znx] at this
    rw [List.length_map]
    exact this
   obtain ⟨n9,hn9,c9⟩:=zpQ (l.nms.map (·.1)) (by simp;omega) (mkS e.1.nm) v.n s4 on
   rw [zbu] at c9
   have x9:Ext s4 (s4.adv n9):=(Ext.refl _).adv hn9
   have he9:=he4.trans x9
   have hsb9:=hB.then he9
   have l13:(s4.adv n9).ld b (0+5)=some v.a:=hsb9.row.ld
   have l20:(s4.adv n9).ld b (0+1)=some v.m:=hsb9.row.ld
   obtain ⟨p14,d1,d2,_⟩:=(hsb9.ow.own 5 _ rfl).rd.load (j:=(j:Int)) (by omega) h (zaW (f:=entRow) (z:=2) (fun _=>rfl) l.ents j e hx) rfl
   have d2':(s4.adv n9).ldN p14.1 p14.2 2=some (.agg (entRow e).toArray):=d2
   obtain ⟨s17,e17,a17,m17,n17⟩:=(a4.ext he9).stV (k:=0) (n:=2) (v:=.agg (entRow e).toArray) (zaC _) rfl rfl (row':=entRow e) rfl
   have hbad:∀ z,z=some (1,[.slice none 0 0,.slice none 0 0,ptr t4 0],s17)→RLayE base0 base t4 wv es z (.error e.2):=fun z hz=>⟨s17,hz,zax (hbb.trans he9) m17 h4,a17⟩
   have hfi:=zk9 l.nms e.1.nm
   rw [hE]
   cases hf:zbZ l.nms e.1.nm with
   | none=>
     rw [hf] at hfi
     simp only at hfi
     have h10:inT (l.nms.map (·.1)) e.1.nm<0:=by omega
     refine hbad _ (zbv _ _ _ _ _ _ _ s ?_)
     simp only [zbo,zdt h,zct,b1,b2',e4',hnl,zac,l7,l8,c9,zob,zab,zaa,zdt h10,l13,d1,d2',e17]
   | some y=>
     rw [hf] at hfi
     obtain ⟨kk,h1,yn,h2⟩:=hfi
     have h10:¬ (kk:Int)<0:=by omega
     have hkl:kk<l.nms.length:=(List.getElem?_eq_some_iff.1 h2).1
     rw [h1] at c9
     obtain ⟨p21,g1,_,g3⟩:=(hsb9.ow.own 1 _ rfl).rd.load (j:=(kk:Int)) (by omega) (show (kk:Int)<(l.nms.length:Int) by omega) (zaW (f:=nuR) (z:=1) (fun _=>rfl) l.nms kk (yn,y) h2) rfl
     have l22:(s4.adv n9).ld p21.1 p21.2=some (.int .i64 y):=g3 0 (show 0<1 by omega)
     by_cases hy:y<0
     ·simp only [if_pos (show y<0∨(N:Int)≤y from .inl hy)]
      refine hbad _ (zbv _ _ _ _ _ _ _ s ?_)
      simp only [zbo,zdt h,zct,b1,b2',e4',hnl,zac,l7,l8,c9,zob,zab,zaa,zdf h10,zcf,l20,g1,l22,zdt hy,l13,d1,d2',e17]
     ·by_cases hyN:(N:Int)≤y
      ·simp only [if_pos (show y<0∨(N:Int)≤y from .inr hyN)]
       refine hbad _ (zbv _ _ _ _ _ _ _ s ?_)
       simp only [zbo,zdt h,zct,b1,b2',e4',hnl,zac,l7,l8,c9,zob,zab,zaa,zdf h10,zcf,l20,g1,l22,zdf hy,hN,zdt hyN,l13,d1,d2',e17]
      ·simp only [if_neg (show ¬ (y<0∨(N:Int)≤y) by omega)]
       have l43:(s4.adv n9).ld s.next 0=some (.string (mkS e.1.nm)):=(c4.ext x9).ld
       have xs9:=x4.trans x9
       obtain ⟨q,s50,f1,f2,f3,f4,f5,f6⟩:=(ow.ext xs9).pushN (row:=zce (e.1.nm,y)) (bt:=24) he9.next (by rw [he9.lim];exact hll) rfl (by omega) rfl (by omega) (by omega)
       have f1':((s4.adv n9).new (.cells [.string (mkS e.1.nm),.int .i64 y] 2)).app 2 24 ev (.slice (some ⟨n9,0,none⟩) 1 1)=some (.slice (some ⟨q,0,none⟩) (es.length+1) (es.length+1),s50):=f1
       have he50:Ext base s50:=⟨zlt he9.next f5,f4.trans he9.lim,fun m hm=>(f6 m (zll hm he9.next) fun q' hq'=>(by
        obtain ⟨_,⟨ev0,_⟩ | ⟨i',ev0,_,_,hbi,hi'⟩⟩:=ow
        ·rw [ev0] at hq';cases hq'
        ·rw [ev0] at hq';cases hq';omega)).trans (he9.keep m hm)⟩
       have hw1:=za4 (i:=j) (by omega)
       have ow50:Own base.next s50 (.slice (some ⟨q,0,none⟩) (es.length+1) (es.length+1)) (rowsF zce (es++[(e.1.nm,y)])) 2 (es++[(e.1.nm,y)]).length:=by
        rw [zbz,zcg,List.length_append]
        exact f3
       have next:=ih (j+1) (es++[(e.1.nm,y)]) _ s50 (by omega) (by simp;omega) he50 ow50
       have step:∀ z,zaf 30 [ptr t4 0,ptr b 0,wv,.slice (some ⟨q,0,none⟩) (es.length+1) (es.length+1),v.e,.int .i64 l.ents.length,.int .i64 ((j+1:Nat):Int)] s50=some z→zaf 30 [ptr t4 0,ptr b 0,wv,ev,v.e,.int .i64 l.ents.length,.int .i64 j] s=some z:=fun z hz=>by
        refine zbv _ _ _ _ _ _ _ s ?_
        simp only [zbo,zdt h,zct,b1,b2',e4',hnl,zac,l7,l8,c9,zob,zab,zaa,zdf h10,zcf,l20,g1,l22,zdf hy,hN,zdf hyN,l43,List.append_nil,SS.adv_next,f1',hw1]
        exact hz
       cases hz:zdB l.nms N (l.ents.drop (j+1)) with
       | error z=>
         rw [hz] at next
         obtain ⟨s',k1,k2⟩:=next
         exact ⟨s',step _ k1,k2⟩
       | ok es'=>
         rw [hz] at next
         obtain ⟨s',ev',k1,k2,k3⟩:=next
         refine ⟨s',ev',step _ k1,k2,?_⟩
         rw [List.append_assoc] at k3
         exact k3
def zsP (st:SS) (res:Option (Value×SS)):Except (Nat×Nat) (List Wd×List (List UInt8×Int))→Prop
 | .error e=>∃ s',res=some (.tuple #[.slice none 0 0,.slice none 0 0,zaX e],s')∧Ext st s'∧0<e.1
 | .ok (ws,es)=>∃ s' wv ev,res=some (.tuple #[wv,ev,zaX (0,0)],s')∧Ext st s'∧Own st.next s' wv (rowsF w12 ws) 12 ws.length∧Own st.next s' ev (rowsF zce es) 2 es.length
theorem zqQ:∀ (xs:List PLine) (l:Lay) (e:Nat×Nat),(∀ x∈xs,0<x.ln)→zeh l xs=.error e→0<e.1
 | [],l,e,_,h=>by cases h
 | x::r,l,e,hx,h=>by
   unfold zeh at h
   split at h
   ·cases h;exact hx x (by simp)
   ·exact zqQ r _ e (fun y hy=>hx y (by simp [hy])) h
theorem zqR:∀ (xs:List PLine) (l l':Lay),zeh l xs=.ok l'→l'.nms.length≤l.nms.length+2*xs.length
 | [],l,l',h=>by cases h;simp
 | x::r,l,l',h=>by
   unfold zeh at h
   split at h
   ·cases h
   ·rename_i l1 hl1
    have h1:=zpu hl1
    have h2:=zqR r l1 l' h
    simp only [List.length_cons]
    omega
noncomputable def zoo [Sym] (t4 wv l':Value) (a:Value) (n b:Int) (s:SS):Option (Value×SS):=
  (zaf 15 [t4,l',wv,a,.int .i64 n,.int .i64 0] s).bind fun c=>
  cond (Nat.beq c.1 0) (
   (c.2.1[0]?).bind fun d=>
   (c.2.1[1]?).bind fun e=>
   (c.2.1[2]?).bind fun f=>
   (zak e).bind fun g=>
   (addr? g).bind fun h=>
   (c.2.2.ld h.1 (h.2+4)).bind fun i=>
   ((lenV i).bind (asI .i64)).bind fun j=>
   (zaf 30 [d,e,f,.slice none 0 0,i,.int .i64 j,.int .i64 0] c.2.2).bind fun k=>
   cond (Nat.beq k.1 0) (
    (k.2.1[0]?).bind fun l=>
    (k.2.1[1]?).bind fun m=>
    (k.2.1[2]?).bind fun o=>
    (addr? l).bind fun p=>
    (k.2.2.st p.1 p.2 [.int .i64 0,.int .i64 0]).bind fun q=>
    (addr? l).bind fun r=>
    (q.rdN r.1 r.2 2).bind fun t=>
    some (.tuple #[m,o,t],q)) (
    (k.2.1[0]?).bind fun u=>
    (k.2.1[1]?).bind fun v=>
    (k.2.1[2]?).bind fun w=>
    (addr? w).bind fun x=>
    (k.2.2.rdN x.1 x.2 2).bind fun y=>
    some (.tuple #[u,v,y],k.2.2))) (
   (c.2.1[0]?).bind fun z=>
   (c.2.1[1]?).bind fun A=>
   (c.2.1[2]?).bind fun B=>
   (addr? B).bind fun C=>
   (c.2.2.rdN C.1 C.2 2).bind fun D=>
   some (.tuple #[z,A,D],c.2.2))
theorem zvm [Sym] {base0 st0 base s:SS} {B b M t4:Nat} {v:V6} {wv:Value} {l:Lay} {its:List WItem} (hB:Rld st0 base B b v l its) (hL:LayOk M l) (hM:M≤100000) (hn:l.ents.length≤100000) (hnm:l.nms.length≤1000000) (hbb:Ext base0 base) (h4:base0.next≤t4) (h4b:t4<base.next) (a4:At base t4 Z2)
  (he:Ext base s) (ow:Own base.next s wv (rowsF w12 (List.replicate (sizeT l) zaG)) 12 (sizeT l)):zsP base0 (zoo (ptr t4 0) wv (ptr b 0) v.l its.length 0 s) (zgh l):=by
 have hN:(lenV wv).bind (asI .i64)=some ((sizeT l:Nat):Int):=by rw [ow.len];rfl
 have hw:=zur hB hL hM hnm hbb h4 a4 hN its.length 0 (List.replicate (sizeT l) zaG) s rfl (by simp) he ow
 rw [List.drop_zero] at hw
 have b0:Nat.beq 0 0=true:=rfl
 have b1:Nat.beq 1 0=false:=rfl
 unfold zgh
 cases hws:zcm l.nms (sizeT l) l.wds (List.replicate (sizeT l) zaG) with
 | error e=>
   rw [hws] at hw
   obtain ⟨s',c1,c2,c3⟩:=hw
   have c1':zaf 15 [ptr t4 0,ptr b 0,wv,v.l,.int .i64 its.length,.int .i64 0] s=_:=c1
   have r1:=c3.rdN (n:=2) rfl
   refine ⟨s',?_,c2,zk8 _ _ _ hL.prs hws⟩
   unfold zoo
   rw [c1',zob]
   simp only [b1,zcf,zgs,zgz,zob,zac,r1]
   rfl
 | ok ws=>
   rw [hws] at hw
   obtain ⟨s',c1,c2,c3,c4⟩:=hw
   have c1':zaf 15 [ptr t4 0,ptr b 0,wv,v.l,.int .i64 its.length,.int .i64 0] s=_:=c1
   have hsb:=hB.then c2
   have hnl:zak (ptr b 0)=some (ptr b 0):=rfl
   have l43:s'.ld b (0+4)=some v.e:=hsb.row.ld
   have hlen:(lenV v.e).bind (asI .i64)=some (l.ents.length:Int):=by rw [(hB.ow.own 4 _ rfl).len];rfl
   have hen:=zus (base0:=base0) (N:=sizeT l) hsb hn hnm (hbb.trans c2) h4 (a4.ext c2) hN l.ents.length 0 [] _ s' rfl (by simp) (Ext.refl _) (Own.nil _ _ _)
   rw [List.drop_zero] at hen
   cases hes:zdB l.nms (sizeT l) l.ents with
   | error e=>
     rw [hes] at hen
     obtain ⟨s2,d1,d2,d3⟩:=hen
     have d1':zaf 30 [ptr t4 0,ptr b 0,wv,.slice none 0 0,v.e,.int .i64 l.ents.length,.int .i64 0] s'=_:=d1
     have r1:=d3.rdN (n:=2) rfl
     refine ⟨s2,?_,d2,zmb _ _ hL.ent hes⟩
     unfold zoo
     rw [c1',zob]
     simp only [b0,zct,zgs,zgz,zob,hnl,zac,l43,hlen]
     rw [d1',zob]
     simp only [b1,zcf,zgs,zgz,zob,zac,r1]
     rfl
   | ok es=>
     rw [hes] at hen
     obtain ⟨s2,ev,d1,d2,d3⟩:=hen
     have d1':zaf 30 [ptr t4 0,ptr b 0,wv,.slice none 0 0,v.e,.int .i64 l.ents.length,.int .i64 0] s'=_:=d1
     simp only [List.nil_append] at d3
     have a42:=(a4.ext c2).ext d2
     obtain ⟨s50,e50,a50,m50,n50⟩:=a42.sto (k:=0) (vs:=Z2) (row':=Z2) rfl rfl
     have r1:=a50.rdN (n:=2) rfl
     have hlw:=zg4 _ _ _ hws
     rw [List.length_replicate] at hlw
     have q1:∀ m,m∈[t4]→m<base.next:=by intro m hm;have e:m=t4:=(by simpa using hm);omega
     refine ⟨s50,wv,ev,?_,zax ((hbb.trans c2).trans d2) m50 h4,?_,(d3.modLt m50 fun m hm=>zll (q1 m hm) c2.next).low (zlt hbb.next c2.next)⟩
     ·unfold zoo
      rw [c1',zob]
      simp only [b0,zct,zgs,zgz,zob,hnl,zac,l43,hlen]
      rw [d1',zob]
      simp only [b0,zct,zgs,zgz,zob,zac,e50,r1]
      rfl
     ·rw [hlw]
      exact ((c3.ext d2).modLt m50 q1).low hbb.next
theorem zrT [Sym] {st:SS} (hl:st.lim≤st.next) (s:ByteArray) (hs:s.size≤65536):zsP st (cc 17 [.string s] st) (zk7 (bl s)):=by
 have x1:Ext st (st.new (.cells Z2 0)):=(Ext.refl _).new _
 have a4:At (st.new (.cells Z2 0)) st.next Z2:=At.new hl Z2
 have hn1:(st.new (.cells Z2 0)).next=st.next+1:=rfl
 generalize hs1:st.new (.cells Z2 0)=s1 at*
 have hp:=zt4 (x1.ll hl) s hs
 have t0:∀ (a b:Value),zan (.tuple #[a,b]) 0=some a:=fun _ _=>rfl
 have t1:∀ (a b:Value),zan (.tuple #[a,b]) 1=some b:=fun _ _=>rfl
 unfold zk7
 cases hpt:zfs (bl s) with
 | error e=>
   rw [hpt] at hp
   obtain ⟨s2,c2,x2⟩:=hp
   have hpos:=zuo hpt
   obtain ⟨s6,e6,a6,x6,n6⟩:=zaO (n:=2) (st:=s2) ((x1.trans x2).ll hl) (r:=Z2) (row:=[.int .i64 e.1,.int .i64 e.2]) (v:=zaX e) rfl rfl rfl rfl
   have e6':(s2.new (.cells [.int .i64 0,.int .i64 0] 0)).stV s2.next 0 2 (zaX e)=some s6:=e6
   have c7:zbl (ptr s2.next 0) 2 0 1=some (s2.next,0):=rfl
   have l8:s6.ld s2.next 0=some (.int .i64 e.1):=a6.ld
   have h8:(0:Int)<(e.1:Int):=by omega
   have l9:s6.ldN s2.next 0 2=some (zaX e):=a6.ldN rfl
   obtain ⟨s10,e10,a10,m10,n10⟩:=((a4.ext x2).ext x6).stV (k:=0) (n:=2) (v:=zaX e) (vs:=[.int .i64 e.1,.int .i64 e.2]) rfl rfl rfl (row':=[.int .i64 e.1,.int .i64 e.2]) rfl
   have r1:=a10.rdN (n:=2) rfl
   refine ⟨s10,zcr _ st ?_,zax ((x1.trans x2).trans x6) m10 (zlr _),hpos⟩
   simp only [zca,hs1,c2,t0,t1,zob,e6',c7,l8,zaa,zdt h8,zct,l9,e10,r1]
   rfl
 | ok xs=>
   rw [hpt] at hp
   obtain ⟨v,s2,c2,x2,items,hxs,hv,hrd⟩:=hp
   obtain ⟨hok,hlen⟩:=zmu hpt
   rw [zaJ] at hok hlen
   obtain ⟨s6,e6,a6,x6,n6⟩:=zaO (n:=2) (st:=s2) ((x1.trans x2).ll hl) (r:=Z2) (row:=Z2) (v:=zaX (0,0)) rfl rfl rfl rfl
   have e6':(s2.new (.cells [.int .i64 0,.int .i64 0] 0)).stV s2.next 0 2 (zaX (0,0))=some s6:=e6
   have c7:zbl (ptr s2.next 0) 2 0 1=some (s2.next,0):=rfl
   have l8:s6.ld s2.next 0=some (.int .i64 0):=a6.ld
   have h8:¬ (0:Int)<0:=by omega
   have x06:=(x1.trans x2).trans x6
   have hl6:=x06.ll hl
   have hlen':(lenV v).bind (asI .i64)=some (items.length:Int):=by rw [hv.len];rfl
   have hil:items.length=xs.length:=by rw [← hxs,List.length_map]
   have hB0:Rld s6 (s6.new (.cells (ldRow ⟨.slice none 0 0,.slice none 0 0,.slice none 0 0,.slice none 0 0,.slice none 0 0,.slice none 0 0⟩ 0) 0)) (s6.next+1) s6.next ⟨.slice none 0 0,.slice none 0 0,.slice none 0 0,.slice none 0 0,.slice none 0 0,.slice none 0 0⟩ zdH []:=
    { ext:=(Ext.refl s6).new _,ll:=hl6,row:=At.new hl6 _,b0:=zlr _,bB:=by omega,BN:=by simp,ow:=⟨fun k o ho=>(by
      match k,ho with
      | 0,ho=>cases ho;exact Own.nil _ _ _
      | 1,ho=>cases ho;exact Own.nil _ _ _
      | 2,ho=>cases ho;exact Own.nil _ _ _
      | 3,ho=>cases ho;exact Own.nil _ _ _
      | 4,ho=>cases ho;exact Own.nil _ _ _
      | 5,ho=>cases ho;exact Own.nil _ _ _
      | k+6,ho=>simp [LO] at ho),fun k m a b j ha hb h1 h2=>(by
      match k,ha with
      | 0,ha=>cases ha;cases h1
      | 1,ha=>cases ha;cases h1
      | 2,ha=>cases ha;cases h1
      | 3,ha=>cases ha;cases h1
      | 4,ha=>cases ha;cases h1
      | 5,ha=>cases ha;cases h1
      | k+6,ha=>simp [LO] at ha)⟩,wds:=rfl,itr:=fun x hx=>(by cases hx) }
   have hb2:st.next+1≤s6.next:=by have:=x2.next;have:=x6.next;omega
   have hloop:=zvl (base:=st) (st0:=s6) (B:=s6.next+1) (b:=s6.next) (M:=s.size+1) (by omega) items (by omega) (fun x hx=>hok x.1 (by rw [← hxs];exact List.mem_map_of_mem hx)) v (hv.ext x6) (fun x hx=>⟨(hrd x hx).1.ext x6,(hrd x hx).2.ext x6⟩) x06 hb2 ((a4.ext x2).ext x6)
    items.length 0 zdH _ [] _ rfl hB0 (zil _) (by simp [zdH]) (by simp [zdH])
   rw [List.drop_zero,hxs] at hloop
   have b0:Nat.beq 0 0=true:=rfl
   have b1:Nat.beq 1 0=false:=rfl
   simp only
   cases hly:zeh zdH xs with
   | error e=>
     rw [hly] at hloop
     obtain ⟨s17,d1,d2,d3⟩:=hloop
     have d1':zaf 6 [ptr st.next 0,ptr s6.next 0,v,.int .i64 items.length,.int .i64 0] (s6.new (.cells [.slice none 0 0,.slice none 0 0,.slice none 0 0,.slice none 0 0,.slice none 0 0,.slice none 0 0,.int .i64 0] 0))=_:=d1
     have r1:=d3.rdN (n:=2) rfl
     refine ⟨s17,zcr _ st ?_,d2,zqQ xs zdH e (fun x hx=>(hok x hx).2) hly⟩
     simp only [zca,hs1,c2,t0,t1,zob,e6',c7,l8,zaa,zdf h8,zcf,hlen']
     rw [d1',zob]
     simp only [b1,zcf,zgs,zgz,zob,zac,r1]
     rfl
   | ok l=>
     rw [hly] at hloop
     obtain ⟨s17,v17,its,d1,hB⟩:=hloop
     have d1':zaf 6 [ptr st.next 0,ptr s6.next 0,v,.int .i64 items.length,.int .i64 0] (s6.new (.cells [.slice none 0 0,.slice none 0 0,.slice none 0 0,.slice none 0 0,.slice none 0 0,.slice none 0 0,.int .i64 0] 0))=_:=d1
     obtain ⟨hL,hen⟩:=zmv xs zdH l (zil (s.size+1)) hok hly
     have hnm:=zqR xs zdH l hly
     simp only [zdH,List.length_nil,Nat.zero_add] at hen hnm
     have x017:=x06.trans hB.ext
     have a417:=((a4.ext x2).ext x6).ext hB.ext
     have hil2:its.length=l.wds.length:=by rw [← hB.wds,List.length_map]
     have hil3:its.length≤2048:=by
      have h1:=hL.wlen
      have h2:=hL.pl
      omega
     have hnl:zak (ptr s6.next 0)=some (ptr s6.next 0):=rfl
     have l19:s17.ld s6.next (0+3)=some v17.p:=hB.row.ld
     have hlp:(lenV v17.p).bind (asI .i64)=some (its.length:Int):=by rw [(hB.ow.own 3 _ rfl).len];rfl
     have hll2:(lenV v17.l).bind (asI .i64)=some (its.length:Int):=by rw [(hB.ow.own 2 _ rfl).len];rfl
     have hlt4:st.next<s17.next:=a417.lt
     have fin:∀ (z:Option (Value×SS)) (wv:Value) (s':SS),Ext s17 s'→Own s17.next s' wv (rowsF w12 (List.replicate (sizeT l) zaG)) 12 (sizeT l)→(∀ y,zoo (ptr st.next 0) wv (ptr s6.next 0) v17.l its.length 0 s'=some y→cc 17 [.string s] st=some y)→
       zsP st (cc 17 [.string s] st) (zgh l):=by
      intro z wv s' he ow hgo
      have hk:=zvm (base0:=st) (t4:=st.next) hB hL (by omega) (by omega) (by omega) x017 (zlr _) hlt4 a417 he ow
      cases hro:zgh l with
      | error e=>
        rw [hro] at hk
        obtain ⟨s2,k1,k2⟩:=hk
        exact ⟨s2,hgo _ k1,k2⟩
      | ok y=>
        obtain ⟨ws,es⟩:=y
        rw [hro] at hk
        obtain ⟨s2,w,e,k1,k2⟩:=hk
        exact ⟨s2,w,e,hgo _ k1,k2⟩
     simp only
     by_cases hw0:0<its.length
     ·have hp:(0:Int)<(its.length:Int):=by omega
      obtain ⟨x,hx⟩:∃ x,its[its.length-1]?=some x:=⟨_,zge (by omega)⟩
      have hwx:l.wds.getLast?=some (x.1,x.2.1):=by
       rw [List.getLast?_eq_getElem?,← hB.wds,List.length_map,List.getElem?_map,hx];rfl
      have hsz:sizeT l=x.1+1:=by unfold sizeT;rw [hwx]
      have hszb:=(ziM hL).2
      have n28:IntKind.wrap .i64 ((its.length:Int)-1)=((its.length-1:Nat):Int):=by rw [wrap64 (by omega) (by omega)];omega
      obtain ⟨p29,q1,_,q3⟩:=(hB.ow.own 3 _ rfl).rd.load (j:=((its.length-1:Nat):Int)) (by omega) (show ((its.length-1:Nat):Int)<(its.length:Int) by omega) (zaW (f:=plR) (z:=1) (fun _=>rfl) its (its.length-1) x hx) rfl
      have l30:s17.ld p29.1 p29.2=some (.int .i64 x.1):=q3 0 (show 0<1 by omega)
      have n31:IntKind.wrap .i64 ((x.1:Int)+1)=((sizeT l:Nat):Int):=by rw [wrap64 (by omega) (by omega),hsz];omega
      have hmk:ze3 ((sizeT l:Nat):Int) ((sizeT l:Nat):Int) 96=some ():=zkL (by omega) (by omega) (by omega)
      have x32:Ext s17 (s17.new (.cells (rowsF w12 (List.replicate (sizeT l) zaG)) 12)):=(Ext.refl _).new _
      have l35:(s17.new (.cells (rowsF w12 (List.replicate (sizeT l) zaG)) 12)).ld s6.next (0+2)=some v17.l:=(hB.then x32).row.ld
      have ow32:Own s17.next (s17.new (.cells (rowsF w12 (List.replicate (sizeT l) zaG)) 12)) (.slice (some ⟨s17.next,0,none⟩) (sizeT l) (sizeT l)) (rowsF w12 (List.replicate (sizeT l) zaG)) 12 (sizeT l):=
       ⟨by rw [zhG zmx];simp,.inr ⟨s17.next,rfl,by omega,SS.new_get,zlr _,by simp⟩⟩
      refine fin none _ _ x32 ow32 fun y hy=>zcr _ st ?_
      simp only [zca,hs1,c2,t0,t1,zob,e6',c7,l8,zaa,zdf h8,zcf,hlen']
      rw [d1',zob]
      simp only [b0,zct,zgs,zgz,zob,hnl,zac,l19,hlp,zdt hp,n28,q1,l30,zaa,n31,hmk,zwn,l35,hll2,Int.toNat_natCast]
      exact hy
     ·have hp:¬ (0:Int)<(its.length:Int):=by omega
      have hwn:l.wds=[]:=List.length_eq_zero_iff.1 (by omega)
      have hsz:sizeT l=0:=by unfold sizeT;rw [hwn];rfl
      have l35:s17.ld s6.next (0+2)=some v17.l:=hB.row.ld
      refine fin none (.slice none 0 0) s17 (Ext.refl _) (by rw [hsz];exact Own.nil _ _ _) fun y hy=>zcr _ st ?_
      simp only [zca,hs1,c2,t0,t1,zob,e6',c7,l8,zaa,zdf h8,zcf,hlen']
      rw [d1',zob]
      simp only [b0,zct,zgs,zgz,zob,hnl,zac,l19,hlp,zdf hp,zcf,l35,hll2]
      exact hy
end Go.Proofs.YtifploedaacedaaGreatDoorE
namespace Go.Proofs.YtifploedaacedaaGreatDoorE
open Go Go.E Go.Proofs
def zjd (k:Nat):Nat:=(zc4.drop k).sum
theorem zop {k:Nat} (h:k<12):zjd k=zaD k+zjd (k+1)∧zjd k≤64:=by
 have:∀ k,k<12→zjd k=zaD k+zjd (k+1)∧zjd k≤64:=by decide+kernel
 exact this k h
theorem zpv {w:Wd} (hw:w.length=12):zfr (zc4.drop 12) (w.drop 12)=0:=by
 rw [List.drop_of_length_le (l:=w) (by omega)]
 rfl
theorem zoq {w:Wd} (hw:w.length=12) {k:Nat} (h:k<12):zfr (zc4.drop k) (w.drop k)=w.getD k 0+2^zaD k*zfr (zc4.drop (k+1)) (w.drop (k+1)):=by
 rw [zoe h,getD_drop (by omega)];rfl
theorem zsQ {w:Wd} (hw:w.length=12) (hg:zdx w=true):∀ (m k:Nat),12=m+k→∃ X:Nat,zfr (zc4.drop k) (w.drop k)=X∧X<2^zjd k
 | 0,k,h=>by
   have:k=12:=by omega
   subst this
   exact ⟨0,zpv hw,Nat.two_pow_pos _⟩
 | m+1,k,h=>by
   obtain ⟨X,h1,h2⟩:=zsQ hw hg m (k+1) (by omega)
   obtain ⟨p,hp,hlt⟩:=znq hg (k:=k) (by omega)
   have ht:=(zop (k:=k) (by omega)).1
   refine ⟨p+2^zaD k*X,by rw [zoq hw (by omega),h1,hp];push_cast;rfl,?_⟩
   rw [ht,Nat.pow_add]
   have h3:2^zaD k*(X+1)≤2^zaD k*2^zjd (k+1):=Nat.mul_le_mul_left _ h2
   rw [Nat.mul_add,Nat.mul_one] at h3
   omega
theorem zor [Sym] (w:Wd) (hw:w.length=12) (hg:zdx w=true) (j:Nat) (base:SS) (hj:base.mem.get j=some (.cells (wRow w) 1)) (hlt:j<base.next):∀ (m:Nat),m≤12→∀ (s:SS),Ext base s→
  ∃ s',Ext s s'∧zch 4 [.int .u64 (zfr (zc4.drop m) (w.drop m)),.slice (some ⟨j,0,none⟩) 12 12,.int .i64 ((m:Int)-1)] s=some (0,[.int .u64 (zf2 w)],s')
 | 0,_,s,he=>by
   have h:¬ (0:Int)≤((0:Nat):Int)-1:=by omega
   refine ⟨s,Ext.refl _,zfg _ _ _ s ?_⟩
   simp only [zee,zdf h,zcf]
   rfl
 | m+1,hm,s,he=>by
   have e1:(((m+1:Nat):Int)-1)=(m:Int):=by omega
   rw [e1]
   have h:(0:Int)≤(m:Int):=by omega
   have c1:=zrK (s.ro s.next)
   have x1:Ext s (((s.ro s.next).new (.cells (wRow zeB) 1)).ro s.lim):=⟨by simp,rfl,fun i hi=>by show ((s.ro s.next).new _).mem.get i=_;rw [SS.new_old (by simp;omega)];rfl⟩
   have m1:(((s.ro s.next).new (.cells (wRow zeB) 1)).ro s.lim).mem.get s.next=some (.cells (wRow zeB) 1):=SS.new_get (st:=s.ro s.next)
   have hmi:m<12:=by omega
   have el:∀ i:Nat,zah (.slice (some ⟨i,0,none⟩) 12 12) (m:Int) 1=some (i,0+m*1):=fun i=>plS hmi
   have l3:(((s.ro s.next).new (.cells (wRow zeB) 1)).ro s.lim).ld s.next (0+m*1)=some (.int .i64 ((2^zaD m:Nat):Int)):=by
    rw [SS.ld_cells m1,Nat.zero_add,Nat.mul_one]
    exact zqC (by omega)
   have m2:(((s.ro s.next).new (.cells (wRow zeB) 1)).ro s.lim).mem.get j=some (.cells (wRow w) 1):=(he.trans x1).get hlt hj
   obtain ⟨p,hp,hpl⟩:=znq hg (k:=m) (by omega)
   have l7:(((s.ro s.next).new (.cells (wRow zeB) 1)).ro s.lim).ld j (0+m*1)=some (.int .i64 (p:Int)):=by
    rw [SS.ld_cells m2,Nat.zero_add,Nat.mul_one,zga,getD_some (by omega),hp];rfl
   obtain ⟨X,hX,hXl⟩:=zsQ hw hg (12-(m+1)) (m+1) (by omega)
   obtain ⟨Y,hY,hYl⟩:=zsQ hw hg (12-m) m (by omega)
   have ht:=zop (k:=m) (by omega)
   have hpow:2^zaD m≤2^11:=Nat.pow_le_pow_right (by omega) (zi6 m)
   have hYb:Y<2^64:=zll hYl (Nat.pow_le_pow_right (by omega) ht.2)
   have hstep:=zoq hw (k:=m) (by omega)
   rw [hX,hY,hp] at hstep
   have hYe:Y=p+2^zaD m*X:=by
    have h2:((p+2^zaD m*X:Nat):Int)=(Y:Int):=by rw [hstep];push_cast;rfl
    omega
   have hXY:X*2^zaD m≤Y:=by rw [Nat.mul_comm];omega
   have w4:IntKind.wrap .u64 ((2^zaD m:Nat):Int)=((2^zaD m:Nat):Int):=zeb (by omega) (by omega)
   have w5:IntKind.wrap .u64 ((X:Int)*((2^zaD m:Nat):Int))=((X*2^zaD m:Nat):Int):=by
    rw [← Int.natCast_mul]
    exact zeb (by omega) (by omega)
   have w8:IntKind.wrap .u64 (p:Int)=(p:Int):=zeb (by omega) (by omega)
   have w9:IntKind.wrap .u64 (((X*2^zaD m:Nat):Int)+(p:Int))=(Y:Int):=by
    have:((X*2^zaD m:Nat):Int)+(p:Int)=(Y:Int):=by rw [hYe,Nat.mul_comm];push_cast;omega
    rw [this]
    exact zeb (by omega) (by omega)
   have w10:IntKind.wrap .i64 ((m:Int)-1)=(m:Int)-1:=wrap64 (by omega) (by omega)
   obtain ⟨s',hs',ih⟩:=zor w hw hg j base hj hlt m (by omega) _ (he.trans x1)
   rw [hY] at ih
   rw [hX]
   refine ⟨s',x1.trans hs',zfg _ _ _ s ?_⟩
   simp only [zee,zdt h,zct,c1,zob,el,SS.ro_next,l3,l7,zaa,w4,w5,w8,w9,w10]
   exact ih
theorem zvn [Sym] (w:Wd) (hw:zl8 w) (st:SS):∃ n,st.next≤n∧cc 18 [wV w] st=some (.int .u64 (zf2 w),st.adv n):=by
 have hc:(wV w).cells.toList=wRow w:=zaC _
 have hm:((st.ro st.next).new (.cells (wRow w) 0)).mem.get st.next=some (.cells (wRow w) 0):=SS.new_get (st:=st.ro st.next)
 have l2:((st.ro st.next).new (.cells (wRow w) 0)).ldN st.next 0 12=some (wV w):=by rw [SS.ldN_cells hm,zgl (by rw [zaK,hw.1])];rfl
 have c3:=zqB w hw.1 ((st.ro st.next).new (.cells (wRow w) 0))
 have hj:((((st.ro st.next).new (.cells (wRow w) 0)).new (.cells (wRow w) 0)).new (.cells (wRow w) 1)).mem.get (((st.ro st.next).new (.cells (wRow w) 0)).next+1)=some (.cells (wRow w) 1):=SS.new_get (st:=((st.ro st.next).new (.cells (wRow w) 0)).new (.cells (wRow w) 0))
 obtain ⟨s',hs',hl⟩:=zor w hw.1 hw.2 _ _ hj (by simp) 12 (zlr _) _ (Ext.refl _)
 rw [zpv hw.1] at hl
 have hl':zch 4 [.int .u64 0,.slice (some ⟨((st.ro st.next).new (.cells (wRow w) 0)).next+1,0,none⟩) 12 12,.int .i64 11] ((((st.ro st.next).new (.cells (wRow w) 0)).new (.cells (wRow w) 0)).new (.cells (wRow w) 1))=_:=hl
 refine ⟨s'.next,by have:=hs'.next;simp at this;omega,zj5 _ st ?_⟩
 simp only [zhJ,hc,SS.ro_next,l2,zob,c3]
 rw [hl',zob]
 rfl
theorem zpw {nms:Nms} {N:Nat}:∀ (xs:List (Nat×PLine)) (ws ws':List Wd),(∀ w∈ws,zl8 w)→zcm nms N xs ws=.ok ws'→∀ w∈ws',zl8 w
 | [],ws,ws',hw,h=>by cases h;exact hw
 | x::r,ws,ws',hw,h=>by
   unfold zcm at h
   split at h
   ·cases h
   ·split at h
    ·cases h
    ·refine zpw r _ ws' (fun w hm=>?_) h
     rcases List.mem_or_eq_of_mem_set hm with h1 | h1
     ·exact hw w h1
     ·rw [h1];exact zoU _ _
theorem zwo {t:List UInt8} {ws:List Wd} {es:List (List UInt8×Int)} (h:zk7 t=.ok (ws,es)):(∀ w∈ws,zl8 w)∧ws.length≤2048:=by
 unfold zk7 at h
 cases hp:zfs t with
 | error z=>rw [hp] at h;cases h
 | ok xs=>
   rw [hp] at h
   simp only at h
   cases hl:zeh zdH xs with
   | error z=>rw [hl] at h;cases h
   | ok l=>
     rw [hl] at h
     obtain ⟨hok,hlen⟩:=zmu hp
     obtain ⟨hL,_⟩:=zmv xs zdH l (zil _) hok hl
     simp only [zgh] at h
     cases hw:zcm l.nms (sizeT l) l.wds (List.replicate (sizeT l) zaG) with
     | error z=>rw [hw] at h;cases h
     | ok ws'=>
       rw [hw] at h
       simp only at h
       cases he:zdB l.nms (sizeT l) l.ents with
       | error z=>rw [he] at h;cases h
       | ok es'=>
         rw [he] at h
         cases h
         refine ⟨zpw _ _ _ (fun w hm=>by rw [List.eq_of_mem_replicate hm];exact zqM) hw,?_⟩
         rw [zg4 _ _ _ hw,List.length_replicate]
         exact (ziM hL).2
end Go.Proofs.YtifploedaacedaaGreatDoorE
namespace Go.Proofs.YtifploedaacedaaGreatDoorE
set_option maxRecDepth 20000
open Go Go.E Go.Proofs
def zd6:LoopI:=⟨[(3,.any),(81,.any),(82,.int .i64),(83,.int .i64)],[(.exit 2,[]),(.ret,[(2,.bool)])]⟩
def zd7:LoopI:=⟨[(3,.any),(7,.any),(65,.any),(66,.int .i64),(67,.int .i64)],[(.exit 0,[(3,.any),(7,.any)]),(.ret,[(2,.bool)])]⟩
def zer (n:Nat):Option LoopI:=cond (Nat.beq n 10) (some zd7) (cond (Nat.beq n 16) (some zd6) (none))
noncomputable def zcz (cf:zam) (lf:zad) (text':ByteArray) (st:SS):Option (Value×SS):=
 (cf 15 [] st).bind fun a=>
 ((some a.1).bind asB).bind fun b=>
 cond (!b) (
 some (.bool false,a.2)) (
 cond (decide (2048<(text'.size:Int))) (
 some (.bool true,a.2)) (
 (cf 16 [.string text'] a.2).bind fun c=>
 (zan c.1 0).bind fun d=>
 (zan c.1 1).bind fun e=>
 ((zan c.1 2).bind (asI .i64)).bind fun f=>
 let g:SS:=c.2.new (.cells [.slice none 0 0,.slice none 0 0] 0)
 let h:SS:=g.new (.cells [.int .i64 0,.int .i64 0] 0)
 (h.stV c.2.next 0 2 d).bind fun i=>
 (i.stV g.next 0 2 e).bind fun j=>
 (cf 17 [.string text'] j).bind fun k=>
 (zan k.1 0).bind fun l=>
 (zan k.1 1).bind fun m=>
 (zan k.1 2).bind fun n=>
 let o:SS:=k.2.new (.cells [.int .i64 0,.int .i64 0] 0)
 (o.stV k.2.next 0 2 n).bind fun p=>
 (p.ldN g.next 0 2).bind fun q=>
 (p.ldN k.2.next 0 2).bind fun s=>
 (((eqA Tryz.prog Lk0 27 q s).bind fun r=>some (.bool !r)).bind asB).bind fun t=>
 cond t (
 some (.bool false,p)) (
 (zbl (ptr k.2.next 0) 2 0 1).bind fun u=>
 ((p.ld u.1 u.2).bind (asI .i64)).bind fun v=>
 cond (!((decide (f=0))==(decide (v=0)))) (
 some (.bool false,p)) (
 cond (!(decide (f=0))) (
 cond (!(decide (f=4))) (
 some (.bool false,p)) (
 (p.ld c.2.next 0).bind fun w=>
 ((lenV w).bind (asI .i64)).bind fun x=>
 ((lenV l).bind (asI .i64)).bind fun y=>
 cond (!(decide (x=y))) (
 some (.bool false,p)) (
 (p.ld c.2.next 1).bind fun z=>
 ((lenV z).bind (asI .i64)).bind fun A=>
 ((lenV m).bind (asI .i64)).bind fun B=>
 cond (!(decide (A=B))) (
 some (.bool false,p)) (
 ((lenV l).bind (asI .i64)).bind fun C=>
 (lf 10 [ptr c.2.next 0,m,l,.int .i64 C,.int .i64 0] p).bind fun D=>
 cond (Nat.beq D.1 0) (
 (D.2.1[0]?).bind fun E=>
 (D.2.1[1]?).bind fun F=>
 ((lenV F).bind (asI .i64)).bind fun G=>
 (lf 16 [E,F,.int .i64 G,.int .i64 0] D.2.2).bind fun H=>
 cond (Nat.beq H.1 0) (
 some (.bool true,H.2.2)) (
 ((H.2.1[0]?).bind asB).bind fun I=>
 some (.bool I,H.2.2))) (
 ((D.2.1[0]?).bind asB).bind fun J=>
 some (.bool J,D.2.2)))))) (
 (p.ld c.2.next 0).bind fun K=>
 ((lenV K).bind (asI .i64)).bind fun L=>
 ((lenV l).bind (asI .i64)).bind fun M=>
 cond (!(decide (L=M))) (
 some (.bool false,p)) (
 (p.ld c.2.next 1).bind fun N=>
 ((lenV N).bind (asI .i64)).bind fun O=>
 ((lenV m).bind (asI .i64)).bind fun P=>
 cond (!(decide (O=P))) (
 some (.bool false,p)) (
 ((lenV l).bind (asI .i64)).bind fun Q=>
 (lf 10 [ptr c.2.next 0,m,l,.int .i64 Q,.int .i64 0] p).bind fun R=>
 cond (Nat.beq R.1 0) (
 (R.2.1[0]?).bind fun S=>
 (R.2.1[1]?).bind fun T=>
 ((lenV T).bind (asI .i64)).bind fun U=>
 (lf 16 [S,T,.int .i64 U,.int .i64 0] R.2.2).bind fun V=>
 cond (Nat.beq V.1 0) (
 some (.bool true,V.2.2)) (
 ((V.2.1[0]?).bind asB).bind fun W=>
 some (.bool W,V.2.2))) (
 ((R.2.1[0]?).bind asB).bind fun X=>
 some (.bool X,R.2.2)))))))))
noncomputable abbrev zaL:zad:=lS Tryz.prog Lk0 Tryz.f3 zer
theorem zhN:Lk0.func 3=some (3,Tryz.f3):=by kernel_rfl
theorem zc1 [Sym] (text':ByteArray) (st:SS) {r:Value×SS} (h:zcz cc zaL text' st=some r):cc 3 [.string text'] st=some r:=
 zai (li:=zer) zaj zao zhN rfl (fun _=>rfl) (.trans (by kernel_rfl) h)
noncomputable def zcN (cf:zam) (lf:zad) (r':Value) (entries':Value) (t65':Value) (t66':Int) (t67':Int) (st:SS):Option (Nat×List Value×SS):=
 cond (decide (t67'<t66')) (
 (zah t65' t67' 12).bind fun a=>
 (st.ldN a.1 a.2 12).bind fun b=>
 let c:SS:=st.new (.cells [.int .i64 0,.int .i64 0,.int .i64 0,.int .i64 0,.int .i64 0,.int .i64 0,.int .i64 0,.int .i64 0,.int .i64 0,.int .i64 0,.int .i64 0,.int .i64 0] 0)
 (c.stV st.next 0 12 b).bind fun d=>
 (addr? r').bind fun e=>
 (d.ld e.1 e.2).bind fun f=>
 (zah f t67' 1).bind fun g=>
 ((d.ld g.1 g.2).bind (asI .u64)).bind fun h=>
 (d.ldN st.next 0 12).bind fun i=>
 (cf 18 [i] (d.ro d.next)).bind fun j=>
 ((some j.1).bind (asI .u64)).bind fun k=>
 cond (!(decide (h=k))) (
 some (1,[.bool false],(j.2.ro d.lim))) (
 let l:Int:=IntKind.wrap .i64 (t67'+1)
 lf 10 [r',entries',t65',.int .i64 t66',.int .i64 l] (j.2.ro d.lim))) (
 some (0,[r',entries'],st))
theorem zdD [Sym] (r':Value) (entries':Value) (t65':Value) (t66':Int) (t67':Int) (st:SS) {r:Nat×List Value×SS} (h:zcN cc zaL r' entries' t65' t66' t67' st=some r):zaL 10 [r',entries',t65',.int .i64 t66',.int .i64 t67'] st=some r:=
 zav zaj zao (key:=10) (I:=zd7) rfl (by kernel_rfl) (by kernel_rfl) rfl rfl (.trans (by kernel_rfl) h)
noncomputable def zcO (cf:zam) (lf:zad) (r':Value) (t81':Value) (t82':Int) (t83':Int) (st:SS):Option (Nat×List Value×SS):=
 cond (decide (t83'<t82')) (
 (zah t81' t83' 2).bind fun a=>
 (st.ldN a.1 a.2 2).bind fun b=>
 let c:SS:=st.new (.cells [.string ⟨#[]⟩,.int .i64 0] 0)
 (c.stV st.next 0 2 b).bind fun d=>
 (addr? r').bind fun e=>
 (d.ld e.1 (e.2+1)).bind fun f=>
 (zah f t83' 2).bind fun g=>
 (d.ldN g.1 g.2 2).bind fun h=>
 (d.ldN st.next 0 2).bind fun i=>
 (((eqA Tryz.prog Lk0 39 h i).bind fun r=>some (.bool !r)).bind asB).bind fun j=>
 cond j (
 some (1,[.bool false],d)) (
 let k:Int:=IntKind.wrap .i64 (t83'+1)
 lf 16 [r',t81',.int .i64 t82',.int .i64 k] d)) (
 some (0,[],st))
theorem zdE [Sym] (r':Value) (t81':Value) (t82':Int) (t83':Int) (st:SS) {r:Nat×List Value×SS} (h:zcO cc zaL r' t81' t82' t83' st=some r):zaL 16 [r',t81',.int .i64 t82',.int .i64 t83'] st=some r:=
 zav zaj zao (key:=16) (I:=zd6) rfl (by kernel_rfl) (by kernel_rfl) rfl rfl (.trans (by kernel_rfl) h)
end Go.Proofs.YtifploedaacedaaGreatDoorE
namespace Go.E
open Go
section
variable {P : Program} {L : Lk} {c1 c2 : CallF}
theorem zoV (hc:zhD c1 c2) {ops:List Oper}:∀ (l:List Oper) (τ:Tm) (st:St) (r:Tm×St),opsE P L c1 ops l τ st=some r→opsE P L c2 ops l τ st=some r
 | [],τ,st,r,h=>h
 | o::l,τ,st,r,h=>by
   simp only [opsE] at h ⊢
   cases hw:wantedE ops τ o with
   | true=>
     rw [hw] at h
     simp only [zct,zbi] at h ⊢
     obtain ⟨x,hx,h⟩:=h
     exact ⟨x,zp5 hc hx,zoV hc l _ _ _ h⟩
   | false=>
     rw [hw] at h
     simp only [zcf] at h ⊢
     exact zoV hc l _ _ _ h
theorem zqS:∀ n,znO (zaP P L n) (zaP P L (n+1))
 | 0,c,τ,st,r,h=>by cases h
 | n+1,c,τ,st,r,h=>by
   have ih:=zqS n
   have hc:zhD (zba L (zaP P L n)) (zba L (zaP P L (n+1))):=zoA ih
   unfold zaP at h ⊢
   cases c<;>simp only at h ⊢<;>try exact h
   case region id ops d=>
    cases d<;>simp only [zmi] at h ⊢
    ·obtain ⟨x,hx,h⟩:=h
     exact ⟨x,zoV hc _ _ _ _ hx,h⟩
    ·obtain ⟨x,hx,h⟩:=h
     exact ⟨x,zoz hc _ _ _ _ _ hx,h⟩
   case seq a b=>
    simp only [zbi] at h ⊢
    obtain ⟨⟨e,τ1,st1⟩,hx,h⟩:=h
    refine ⟨(e,τ1,st1),ih _ _ _ _ hx,?_⟩
    cases e<;>simp only at h ⊢<;>first | exact ih _ _ _ _ h | exact h
   case cond x a b=>
    cases hv:rho L τ x with
    | none=>rw [hv] at h;cases h
    | some v=>
      rw [hv] at h
      try simp only [zob]
      cases v<;>(try simp only [zob] at h)<;>(try simp only)<;>try (cases h;done)
      rename_i bb
      cases bb<;>exact ih _ _ _ _ h
   case block id body=>
    simp only [zbi] at h ⊢
    obtain ⟨⟨e,τ1,st1⟩,hx,h⟩:=h
    refine ⟨(e,τ1,st1),ih _ _ _ _ hx,?_⟩
    cases e<;>exact h
   case loop body=>
    simp only [zbi] at h ⊢
    obtain ⟨⟨e,τ1,st1⟩,hx,h⟩:=h
    refine ⟨(e,τ1,st1),ih _ _ _ _ hx,?_⟩
    cases e<;>simp only at h ⊢<;>first | exact ih _ _ _ _ h | exact h
theorem zvo {n m:Nat} (h:n≤m):znO (zaP P L n) (zaP P L m):=by
 obtain ⟨k,rfl⟩:=Nat.le.dest h
 clear h
 induction k with
 | zero=>exact fun _ _ _ _ h=>h
 | succ k ih=>exact fun c τ st r h=>zqS _ _ _ _ _ (ih _ _ _ _ h)
def okP (nx:Nat) (r:Option (Value×St)):Bool:=match r with
 | some (.bool b,s)=>b&&Nat.ble nx s.next
 | _=>false
theorem zrm [Sym] (hL:L.Ok P) {f:FuncId} {args:List Value} {st:SS} {n:Nat} (hx:L.ext f args=none) (hcn:L.con f args st.next=none) (hp:L.pureF f=true)
  (h:okP st.next (runF P L n f args ⟨st.mem,st.next,st.next,[]⟩)=true):∃ N,st.next≤N∧cS P L f args st=some (.bool true,st.adv N):=by
 cases hr:runF P L n f args ⟨st.mem,st.next,st.next,[]⟩ with
 | none=>rw [hr] at h;cases h
 | some r=>
   have hrun:=zvv hL hr
   rw [hr] at h
   obtain ⟨v,s'⟩:=r
   have hv:v=.bool true∧st.next≤s'.next:=by
    unfold okP at h
    cases v<;>simp only at h<;>try (cases h;done)
    rename_i b
    rw [zae] at h
    exact ⟨by rw [h.1],Nat.le_of_ble_eq_true h.2⟩
   obtain ⟨rfl,hN⟩:=hv
   refine ⟨s'.next,hN,?_⟩
   rw [zjM]
   refine ⟨rfl,n,fun m hm base log=>⟨log,?_,.refl _ _ _⟩⟩
   unfold runE zba at hrun
   unfold zba
   have hcn':L.con f args (st.toE base log).next=none:=hcn
   rw [hx] at hrun ⊢
   simp only at hrun ⊢
   rw [hcn] at hrun
   rw [hcn']
   simp only [hp,zct,zbi] at hrun ⊢
   obtain ⟨a,ha,c,hc,h1⟩:=hrun
   refine ⟨a,ha,c,hc,?_⟩
   cases hb:Nat.ble args.length a.2.ntmps with
   | false=>rw [hb] at h1;cases h1
   | true=>
     rw [hb] at h1
     simp only [zct,zbi] at h1 ⊢
     obtain ⟨⟨e,τ,s1⟩,h2,h3⟩:=h1
     refine ⟨(e,τ,s1),zvo hm _ _ _ _ h2,?_⟩
     cases e<;>simp only [zbi] at h3 ⊢<;>first
      | (cases h3;done)
      | (obtain ⟨vs,h4,h5⟩:=h3
         refine ⟨vs,h4,?_⟩
         cases hq:(s1.log.isEmpty&&flat3 (zbx vs)) with
         | false=>rw [hq] at h5;cases h5
         | true=>
           rw [hq] at h5
           simp only [zct,zsj,zpj] at h5 ⊢
           obtain ⟨h6,h7⟩:=h5
           exact ⟨h6,by rw [← h7];rfl⟩)
end
end Go.E
namespace Go.Proofs.YtifploedaacedaaGreatDoorE
open Go Go.E Go.Proofs
noncomputable def ziO:List (Nat×AObj):=[(6,.table [.chan (some 6)]),(7,.table [.chan (some 7)]),(0,.table fieldsC),(2,.table asciiC)]
noncomputable def st0:SS:=⟨zf7 ziO,12,12⟩
theorem gd0:Gd st0:=⟨by simp [st0,zf7,ziO,PT.get_upd],by simp [st0,zf7,ziO,PT.get_upd],by simp [st0,zf7,ziO,PT.get_upd],by simp [st0,zf7,ziO,PT.get_upd],zlr _⟩
theorem globIn:∀ g,Lk0.glob g=true→g∈ziO.map (·.1):=fun g h=>by
 have h':(Nat.beq g 6||Nat.beq g 7||Nat.beq g 0||Nat.beq g 2)=true:=h
 simp only [Bool.or_eq_true,zaI,decide_eq_true_eq] at h'
 rcases h' with ((rfl | rfl) | rfl) | rfl<;>simp [ziO]
theorem tabLt:∀ x∈ziO,x.1<12:=fun x hx=>by
 simp only [ziO,List.mem_cons,List.not_mem_nil,or_false] at hx
 rcases hx with rfl | rfl | rfl | rfl<;>decide
abbrev symE (a4:TypeId) (u4:Value) (a5:TypeId) (u5:Value):Sym where
 v i:=if i=6 then .iface a4 u4 else .iface a5 u5
 ok i:=by
  refine .inr (.inr ?_)
  split<;>exact ⟨_,_,rfl⟩
abbrev laidF:DataW Unit:=.agg ((zbD.map fun m=>(m.1,(m.2:Int))).map fun m=>.agg [.lit (.string m.1),.lit (.int .i64 m.2)])
abbrev laidS:DataW Unit:=.agg (Lib.asciiSpaceTab.map fun m=>.lit (.int .u8 m))
theorem law_at {f:Nat} {fn:Func} (hf:Lk0.func f=some (f,fn)) {W:World} {laid:List (String×DataW Unit)} (h:laidMet Tryz.prog laid W) (h4:∃ nm d,("strconv.ErrSyntax",DataW.iface nm d)∈laid) (h5:∃ nm d,("strconv.ErrRange",DataW.iface nm d)∈laid)
  (hF:("camshaft/uword.fields",laidF)∈laid) (hS:("strings.asciiSpace",laidS)∈laid)
  {args:List Value} (hargs:∀ x∈args,flat3 x=true) (hlaw:∀ [Sym],∃ st',cc f args st0=some (.bool true,st')):
  Calls Tryz.prog f args.toArray W fun e W'=>e=.returned (.bool true)∧RowKit.Below W.heap.size W W':=by
 obtain ⟨nm4,d4,m4⟩:=h4
 obtain ⟨nm5,d5,m5⟩:=h5
 obtain ⟨a4,u4,c4⟩:=zn4 h m4 (g:=6) (t:=208) (by kernel_rfl) (by kernel_rfl) Tryz.underlying208
 obtain ⟨a5,u5,c5⟩:=zn4 h m5 (g:=7) (t:=208) (by kernel_rfl) (by kernel_rfl) Tryz.underlying208
 letI:Sym:=symE a4 u4 a5 u5
 have hE:ErrSym:=⟨⟨a4,u4,rfl⟩,⟨a5,u5,rfl⟩⟩
 obtain ⟨oF,f1,f2⟩:=zr5 h hF (g:=0) (kk:=.i64) (by kernel_rfl) (by kernel_rfl) Tryz.underlying128 Tryz.underlying127 (by kernel_rfl) rfl rfl rfl Tryz.underlying9 Tryz.underlying3 rfl rfl (by kernel_rfl) (by kernel_rfl) _ (by simp [zbD]) rfl
 obtain ⟨oS,s1,s2⟩:=ztd h hS (g:=2) (kk:=.u8) (by kernel_rfl) (by kernel_rfl) Tryz.underlying233 Tryz.underlying5 (by kernel_rfl) _ rfl
 obtain ⟨st',hl⟩:=hlaw
 refine law_cS zaj (zvL hE) hf (l:=ziO) (nx:=12) hl rfl hargs (fun x hx=>?_) globIn tabLt
 simp only [ziO,List.mem_cons,List.not_mem_nil,or_false] at hx
 rcases hx with rfl | rfl | rfl | rfl
 ·exact ztv (i:=6) c4
 ·exact ztv (i:=7) c5
 ·exact ⟨oF,f1,f2 _⟩
 ·exact ⟨oS,s1,s2 _⟩
end Go.Proofs.YtifploedaacedaaGreatDoorE
namespace Go.Proofs.YtifploedaacedaaGreatDoorE
set_option maxRecDepth 1000000
open Go Go.E Go.Proofs
theorem zsR:okP st0.next (runF Tryz.prog Lk0 2000 15 [] ⟨st0.mem,st0.next,st0.next,[]⟩)=true:=by kernel_rfl
theorem alive0 [Sym]:∃ N,st0.next≤N∧cc 15 [] st0=some (.bool true,st0.adv N):=
 zrm (st:=st0) (f:=15) (args:=[]) (n:=2000) zaj (by kernel_rfl) (by kernel_rfl) (by kernel_rfl) zsR
end Go.Proofs.YtifploedaacedaaGreatDoorE
namespace Go.Proofs.YtifploedaacedaaGreatDoorE
open Go Go.E Go.Proofs
theorem zvp (s s':ByteArray) (a a':Int):eqA Tryz.prog Lk0 39 (.agg #[.string s,.int .i64 a]) (.agg #[.string s',.int .i64 a'])=some (eqT s s'&&(decide (a=a')&&true)):=by kernel_rfl
theorem zmc [Sym] {r:Nat} {wc ev v13 wr:Value} (ws:List Wd) (hws:∀ w∈ws,zl8 w) (hsz:ws.length≤2048) (base:SS) (hll:base.lim≤base.next) (hr:At base r [wc,ev]) (hc:Rd base wc (rowsF zeG ws) 1 ws.length) (hv:Rd base wr (rowsF w12 ws) 12 ws.length):∀ (k i:Nat) (s:SS),ws.length=k+i→Ext base s→
  ∃ s',Ext base s'∧zaL 10 [ptr r 0,v13,wr,.int .i64 ws.length,.int .i64 i] s=some (0,[ptr r 0,v13],s'):=by
 intro k
 induction k with
 | zero=>
   intro i s hk he
   have h:¬ (i:Int)<(ws.length:Int):=by omega
   refine ⟨s,he,zdD _ _ _ _ _ s ?_⟩
   simp only [zcN,zdf h,zcf]
 | succ k ih=>
   intro i s hk he
   have h:(i:Int)<(ws.length:Int):=by omega
   obtain ⟨w,hg⟩:∃ w,ws[i]?=some w:=⟨_,zge (by omega)⟩
   have hw:=hws w (zmg hg)
   obtain ⟨p1,b1,b2,_⟩:=(hv.ext he).load (j:=(i:Int)) (by omega) h (zaW (f:=w12) (z:=12) zmx ws i w hg) (zmx w)
   rw [zup hw.1] at b2
   obtain ⟨s4,e4,a4,x4,n4⟩:=zaO (n:=12) (st:=s) (he.ll hll) (r:=Z12) (row:=wRow w) (v:=wV w) (zaC _) (by rw [zaK,hw.1]) (zcK w) rfl
   have e4':(s.new (.cells [.int .i64 0,.int .i64 0,.int .i64 0,.int .i64 0,.int .i64 0,.int .i64 0,.int .i64 0,.int .i64 0,.int .i64 0,.int .i64 0,.int .i64 0,.int .i64 0] 0)).stV s.next 0 12 (wV w)=some s4:=e4
   have b2':s.ldN p1.1 p1.2 12=some (wV w):=b2
   have he4:=he.trans x4
   have l6:s4.ld r 0=some wc:=(hr.ext he4).ld
   obtain ⟨p7,c1,_,c3⟩:=(hc.ext he4).load (j:=(i:Int)) (by omega) h (zaW (f:=zeG) (z:=1) (fun _=>rfl) ws i w hg) rfl
   have l8:s4.ld p7.1 p7.2=some (.int .u64 (zf2 w)):=c3 0 (by omega)
   have l9:s4.ldN s.next 0 12=some (wV w):=a4.ldN (by rw [zaK,hw.1])
   obtain ⟨n10,hn10,c10⟩:=zvn w hw (s4.ro s4.next)
   have hst:((s4.ro s4.next).adv n10).ro s4.lim=s4.adv n10:=rfl
   have hn10':s4.next≤n10:=hn10
   have x10:Ext s4 (s4.adv n10):=(Ext.refl _).adv hn10'
   obtain ⟨s',f1,f2⟩:=ih (i+1) (s4.adv n10) (by omega) (he4.trans x10)
   have hw1:=za4 (i:=i) (by omega)
   have u8:asI .u64 (.int .u64 (zf2 w))=some (zf2 w):=rfl
   refine ⟨s',f1,zdD _ _ _ _ _ s ?_⟩
   simp only [zcN,zdt h,zct,b1,b2',e4',zob,zac,l6,c1,l8,l9,c10,u8,hst,decide_true,znt,zcf,hw1]
   exact f2
theorem zm3 [Sym] {r:Nat} {wc ev er:Value} (es:List (List UInt8×Int)) (hsz:es.length≤1099511627776) (base:SS) (hll:base.lim≤base.next) (hr:At base r [wc,ev]) (hc:Rd base ev (rowsF zce es) 2 es.length) (hv:Rd base er (rowsF zce es) 2 es.length):∀ (k i:Nat) (s:SS),es.length=k+i→Ext base s→
  ∃ s',zaL 16 [ptr r 0,er,.int .i64 es.length,.int .i64 i] s=some (0,[],s'):=by
 intro k
 induction k with
 | zero=>
   intro i s hk he
   have h:¬ (i:Int)<(es.length:Int):=by omega
   refine ⟨s,zdE _ _ _ _ s ?_⟩
   simp only [zcO,zdf h,zcf]
 | succ k ih=>
   intro i s hk he
   have h:(i:Int)<(es.length:Int):=by omega
   obtain ⟨e,hg⟩:∃ e,es[i]?=some e:=⟨_,zge (by omega)⟩
   have hgr:=zaW (f:=zce) (z:=2) (fun _=>rfl) es i e hg
   obtain ⟨p1,b1,b2,_⟩:=(hv.ext he).load (j:=(i:Int)) (by omega) h hgr rfl
   have b2':s.ldN p1.1 p1.2 2=some (.agg (zce e).toArray):=b2
   obtain ⟨s4,e4,a4,x4,n4⟩:=zaO (n:=2) (st:=s) (he.ll hll) (r:=zce ([],0)) (row:=zce e) (v:=.agg (zce e).toArray) (zaC _) rfl rfl rfl
   have e4':(s.new (.cells [.string ⟨#[]⟩,.int .i64 0] 0)).stV s.next 0 2 (.agg (zce e).toArray)=some s4:=e4
   have he4:=he.trans x4
   have l6:s4.ld r (0+1)=some ev:=(hr.ext he4).ld
   obtain ⟨p7,c1,c2,_⟩:=(hc.ext he4).load (j:=(i:Int)) (by omega) h hgr rfl
   have c2':s4.ldN p7.1 p7.2 2=some (.agg (zce e).toArray):=c2
   have l9:s4.ldN s.next 0 2=some (.agg (zce e).toArray):=a4.ldN rfl
   have hq:eqA Tryz.prog Lk0 39 (.agg (zce e).toArray) (.agg (zce e).toArray)=some true:=by
    have h1:=zvp (mkS e.1) (mkS e.1) e.2 e.2
    have h2:eqT (mkS e.1) (mkS e.1)=true:=by rw [zd0];simp
    rw [h2] at h1
    simpa [zce] using h1
   obtain ⟨s',f2⟩:=ih (i+1) s4 (by omega) he4
   have hw1:=za4 (i:=i) (by omega)
   refine ⟨s',zdE _ _ _ _ s ?_⟩
   simp only [zcO,zdt h,zct,b1,b2',e4',zob,zac,l6,c1,c2',l9,hq,znt,zal,zcf,hw1]
   exact f2
theorem zwp {t:List UInt8} {ws:List Wd} {es:List (List UInt8×Int)} (h:zk7 t=.ok (ws,es)):es.length≤t.length+1∧∀ e∈es,e.1≠[]∧0≤e.2∧e.2<ws.length:=by
 unfold zk7 at h
 cases hp:zfs t with
 | error z=>rw [hp] at h;cases h
 | ok xs=>
   rw [hp] at h
   simp only at h
   cases hl:zeh zdH xs with
   | error z=>rw [hl] at h;cases h
   | ok l=>
     rw [hl] at h
     obtain ⟨hok,hlen⟩:=zmu hp
     obtain ⟨hL,hen⟩:=zmv xs zdH l (zil _) hok hl
     simp only [zgh] at h
     cases hw:zcm l.nms (sizeT l) l.wds (List.replicate (sizeT l) zaG) with
     | error z=>rw [hw] at h;cases h
     | ok ws'=>
       rw [hw] at h
       simp only at h
       cases he:zdB l.nms (sizeT l) l.ents with
       | error z=>rw [he] at h;cases h
       | ok es'=>
         rw [he] at h
         cases h
         have key:∀ (xs:List (Val×Nat×Nat)) (es:List (List UInt8×Int)),(∀ e∈xs,e.1.nm≠[])→zdB l.nms (sizeT l) xs=.ok es→es.length=xs.length∧∀ e∈es,e.1≠[]∧0≤e.2∧e.2<sizeT l:=by
          intro xs
          induction xs with
          | nil=>intro es _ h;cases h;exact ⟨rfl,fun e he=>by cases he⟩
          | cons x r ih=>
            intro es hx h
            unfold zdB at h
            split at h
            ·cases h
            ·split at h
             ·cases h
             ·rename_i hc
              split at h
              ·cases h
              ·rename_i es2 h2
               cases h
               obtain ⟨k1,k2⟩:=ih es2 (fun e he=>hx e (by simp [he])) h2
               refine ⟨by simp [k1],fun e he=>?_⟩
               rcases List.mem_cons.1 he with rfl | he
               ·exact ⟨hx x (by simp),by simp only;omega,by simp only;omega⟩
               ·exact k2 e he
         obtain ⟨k1,k2⟩:=key _ _ (fun e he=>(hL.ent e he).1) he
         refine ⟨by rw [k1];simp [zdH] at hen;omega,fun e he=>?_⟩
         rw [zg4 _ _ _ hw,List.length_replicate]
         exact k2 e he
theorem uasmBuilds_ok [Sym] (s:ByteArray):∃ st',cc 3 [.string s] st0=some (.bool true,st'):=by
 obtain ⟨N,hN,hal⟩:=alive0
 have x1:Ext st0 (st0.adv N):=(Ext.refl _).adv hN
 by_cases h1:(2048:Int)<(s.size:Int)
 ·refine ⟨_,zc1 _ st0 (r:=(.bool true,st0.adv N)) ?_⟩
  simp only [zcz,hal,zob,zal,znt,zcf,zdt h1,zct]
 have hl0:st0.lim≤st0.next:=zlr _
 have ha:=asm_ok (gd0.ext x1) (x1.ll hl0) s (by omega)
 have t0:∀ (a b c:Value),zan (.tuple #[a,b,c]) 0=some a:=fun _ _ _=>rfl
 have t1:∀ (a b c:Value),zan (.tuple #[a,b,c]) 1=some b:=fun _ _ _=>rfl
 have t2:∀ (a b c:Value),zan (.tuple #[a,b,c]) 2=some c:=fun _ _ _=>rfl
 have b0:Nat.beq 0 0=true:=rfl
 have mid:∀ (s3:SS) (wv ev:Value) (e:Nat×Nat),Ext st0 s3→one wv=true→one ev=true→∃ s10,(((s3.new (.cells NN 0)).new (.cells Z2 0)).stV s3.next 0 2 (zma wv ev)).bind (fun s9=>s9.stV (s3.next+1) 0 2 (zaX e))=some s10∧Ext s3 s10∧At s10 s3.next [wv,ev]∧At s10 (s3.next+1) [.int .i64 e.1,.int .i64 e.2]:=by
  intro s3 wv ev e he w1 w2
  have hll:=he.ll hl0
  have y1:Ext s3 (s3.new (.cells NN 0)):=(Ext.refl _).new _
  have y2:Ext (s3.new (.cells NN 0)) ((s3.new (.cells NN 0)).new (.cells Z2 0)):=(Ext.refl _).new _
  have q1:At ((s3.new (.cells NN 0)).new (.cells Z2 0)) s3.next NN:=(At.new hll NN).ext y2
  have q2:At ((s3.new (.cells NN 0)).new (.cells Z2 0)) (s3.next+1) Z2:=At.new (st:=s3.new (.cells NN 0)) (y1.ll hll) Z2
  obtain ⟨s9,e9,a9,m9,n9⟩:=q1.stV (k:=0) (n:=2) (v:=zma wv ev) (vs:=[wv,ev]) rfl rfl (by simp [w1,w2]) (row':=[wv,ev]) rfl
  obtain ⟨s10,e10,a10,m10,n10⟩:=(q2.mod m9 (by simp)).stV (k:=0) (n:=2) (v:=zaX e) (vs:=[.int .i64 e.1,.int .i64 e.2]) rfl rfl rfl (row':=[.int .i64 e.1,.int .i64 e.2]) rfl
  exact ⟨s10,by rw [e9,zob,e10],zax (zax (y1.trans y2) m9 (zlr _)) m10 (by omega),a9.mod m10 (by simp),a10⟩
 have pq:∀ (e:Nat×Nat),eqA Tryz.prog Lk0 27 (zaX e) (zaX e)=some true:=fun e=>by
  have:=zvV (e.1:Int) e.2 e.1 e.2
  simpa [zaX] using this
 have c20:∀ i,zbl (ptr i 0) 2 0 1=some (i,0):=fun i=>rfl
 cases hr:zk7 (bl s) with
 | error e=>
   rw [hr] at ha
   obtain ⟨s3,c3,x3⟩:=ha
   have x03:=x1.trans x3
   obtain ⟨s10,e10,x10,a10,p10⟩:=mid s3 _ _ e x03 (show one (.slice none 0 0)=true from rfl) (show one (.slice none 0 0)=true from rfl)
   obtain ⟨s9,e9,e9'⟩:=zbi.1 e10
   have x010:=x03.trans x10
   have hra:=zrT (x010.ll hl0) s (by omega)
   rw [hr] at hra
   obtain ⟨s11,c11,x11,hpos⟩:=hra
   obtain ⟨s16,e16,a16,x16,n16⟩:=zaO (n:=2) (st:=s11) ((x010.trans x11).ll hl0) (r:=Z2) (row:=[.int .i64 e.1,.int .i64 e.2]) (v:=zaX e) rfl rfl rfl rfl
   have l17:s16.ldN (s3.next+1) 0 2=some (zaX e):=((p10.ext x11).ext x16).ldN rfl
   have l18:s16.ldN s11.next 0 2=some (zaX e):=a16.ldN rfl
   have l21:s16.ld s11.next 0=some (.int .i64 e.1):=a16.ld
   have h4:¬ (4:Int)=0:=by decide
   have he0:¬ (e.1:Int)=0:=by omega
   have a166:=(a10.ext x11).ext x16
   have l22:s16.ld s3.next 0=some (.slice none 0 0):=a166.ld
   have l25:s16.ld s3.next 1=some (.slice none 0 0):=a166.ld
   obtain ⟨s17,x17,f17⟩:=zmc (wc:=.slice none 0 0) (ev:=.slice none 0 0) (v13:=.slice none 0 0) (wr:=.slice none 0 0) [] (fun w hw=>by cases hw) (by simp) s16 (((x010.trans x11).trans x16).ll hl0) a166 (Own.nil 0 s16 1).rd (Own.nil 0 s16 12).rd 0 0 s16 rfl (Ext.refl _)
   obtain ⟨s18,f18⟩:=zm3 (wc:=.slice none 0 0) (ev:=.slice none 0 0) (er:=.slice none 0 0) [] (by simp) s16 (((x010.trans x11).trans x16).ll hl0) a166 (Own.nil 0 s16 2).rd (Own.nil 0 s16 2).rd 0 0 s17 rfl x17
   have f17':zaL 10 [ptr s3.next 0,.slice none 0 0,.slice none 0 0,.int .i64 0,.int .i64 0] s16=some (0,[ptr s3.next 0,.slice none 0 0],s17):=f17
   have f18':zaL 16 [ptr s3.next 0,.slice none 0 0,.int .i64 0,.int .i64 0] s17=some (0,[],s18):=f18
   have hle:(lenV (.slice none 0 0)).bind (asI .i64)=some 0:=rfl
   refine ⟨s18,zc1 _ st0 ?_⟩
   simp only [zcz,hal,zob,zal,znt,zcf,zdf h1,c3,t0,t1,t2,zaa,e9,SS.new_next,e9',c11,e16,l17,l18,pq,c20,l21,zdf h4,zdf he0,znf,zct,decide_true,l22,l25,hle,beq_self_eq_true]
   rw [f17',zob]
   simp only [b0,zct,zgs,zgz,zob,hle]
   rw [f18',zob]
   simp only [b0,zct]
 | ok y=>
   obtain ⟨ws,es⟩:=y
   obtain ⟨hwd,hwl⟩:=zwo hr
   have hel:=(zwp hr).1
   rw [zaJ] at hel
   rw [hr] at ha
   obtain ⟨s3,wv,ev,c3,x3,o1,o2⟩:=ha
   have x03:=x1.trans x3
   have w1:one wv=true:=(Own.cell o1).2
   have w2:one ev=true:=(Own.cell o2).2
   obtain ⟨s10,e10,x10,a10,p10⟩:=mid s3 wv ev (0,0) x03 w1 w2
   obtain ⟨s9,e9,e9'⟩:=zbi.1 e10
   have x010:=x03.trans x10
   have hra:=zrT (x010.ll hl0) s (by omega)
   rw [hr] at hra
   obtain ⟨s11,wr,er,c11,x11,o3,o4⟩:=hra
   obtain ⟨s16,e16,a16,x16,n16⟩:=zaO (n:=2) (st:=s11) ((x010.trans x11).ll hl0) (r:=Z2) (row:=Z2) (v:=zaX (0,0)) rfl rfl rfl rfl
   have l17:s16.ldN (s3.next+1) 0 2=some (zaX (0,0)):=((p10.ext x11).ext x16).ldN rfl
   have l18:s16.ldN s11.next 0 2=some (zaX (0,0)):=a16.ldN rfl
   have l21:s16.ld s11.next 0=some (.int .i64 0):=a16.ld
   have a166:=(a10.ext x11).ext x16
   have l22:s16.ld s3.next 0=some wv:=a166.ld
   have l25:s16.ld s3.next 1=some ev:=a166.ld
   have xs:=(x10.trans x11).trans x16
   have hll16:=((x010.trans x11).trans x16).ll hl0
   obtain ⟨s17,x17,f17⟩:=zmc (v13:=er) ws hwd hwl s16 hll16 a166 (o1.rd.ext xs) (o3.rd.ext x16) ws.length 0 s16 rfl (Ext.refl _)
   obtain ⟨s18,f18⟩:=zm3 es (by omega) s16 hll16 a166 (o2.rd.ext xs) (o4.rd.ext x16) es.length 0 s17 rfl x17
   have f17':zaL 10 [ptr s3.next 0,er,wr,.int .i64 ws.length,.int .i64 0] s16=some (0,[ptr s3.next 0,er],s17):=f17
   have f18':zaL 16 [ptr s3.next 0,er,.int .i64 es.length,.int .i64 0] s17=some (0,[],s18):=f18
   have q1:(lenV wv).bind (asI .i64)=some (ws.length:Int):=by rw [o1.len];rfl
   have q2:(lenV ev).bind (asI .i64)=some (es.length:Int):=by rw [o2.len];rfl
   have q3:(lenV wr).bind (asI .i64)=some (ws.length:Int):=by rw [o3.len];rfl
   have q4:(lenV er).bind (asI .i64)=some (es.length:Int):=by rw [o4.len];rfl
   refine ⟨s18,zc1 _ st0 ?_⟩
   simp only [zcz,hal,zob,zal,znt,zcf,zdf h1,c3,t0,t1,t2,zaa,e9,SS.new_next,e9',c11,e16,l17,l18,pq,c20,l21,decide_true,l22,l25,q1,q2,q3,q4,beq_self_eq_true]
   rw [f17',zob]
   simp only [b0,zct,zgs,zgz,zob,q4]
   rw [f18',zob]
   simp only [b0,zct]
end Go.Proofs.YtifploedaacedaaGreatDoorE
