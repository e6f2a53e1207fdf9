/- Parts of the proof of UasmMakes, packed by a program: an evaluator over the given code, functions as plain texts, their laws. -/
import Derived.Test.YtifploedaacedaaGreatDoorPND
set_option linter.unusedVariables false
set_option linter.unusedSimpArgs false
namespace Go.Proofs.YtifploedaacedaaGreatDoorE
open Go Go.E Go.Proofs
def Free (L:List OL) (j:Nat):Prop:=∀ (k:Nat) (o:OL),L[k]?=some o→blkOf o.v≠some j
structure FrL (b:Nat) (st:SS) (L:List OL) (st':SS) (L':List OL):Prop where
 next:st.next≤st'.next
 lim:st'.lim=st.lim
 keep:∀ j,j<st.next→j≠b→Free L j→st'.mem.get j=st.mem.get j∧Free L' j
section
variable {b B : Nat} {st st' st'' : SS} {L L' L'' : List OL}
theorem FrL.trans (h:FrL b st L st' L') (k:FrL b st' L' st'' L''):FrL b st L st'' L'':=⟨zlt h.next k.next,k.lim.trans h.lim,fun j h1 h2 h3=>by
 obtain ⟨a,c⟩:=h.keep j h1 h2 h3
 obtain ⟨d,e⟩:=k.keep j (zll h1 h.next) h2 c
 exact ⟨d.trans a,e⟩⟩
theorem FrL.ext (x:Ext st st'):FrL b st L st' L:=⟨x.next,x.lim,fun j h1 _ h3=>⟨x.keep j h1,h3⟩⟩
theorem FrL.mod (m:Mod [b] st st'):FrL b st L st' L:=⟨m.next,m.lim,fun j h1 h2 h3=>⟨m.keep j h1 (by simpa using h2),h3⟩⟩
theorem Owns.free (h:Owns B st L) {j:Nat} (hj:j<B):Free L j:=fun k o ho e=>by have:=(zco (h.own k o ho) e).1;omega
theorem FrL.at (f:FrL b st L st' L') {j:Nat} {row:List Value} (h:At st j row) (h1:j≠b) (h2:Free L j):At st' j row:=⟨(f.keep j h.lt h1 h2).1.trans h.1,zll h.lt f.next,by rw [f.lim];exact h.2.2⟩
theorem FrL.toExt {st0:SS} (f:FrL b st L st' L') (x:Ext st0 st) (hb:st0.next≤b) (ow:Owns B st L) (hB:st0.next≤B):Ext st0 st':=⟨zlt x.next f.next,f.lim.trans x.lim,fun j hj=>(f.keep j (zll hj x.next) (by omega) (ow.free (by omega))).1.trans (x.keep j hj)⟩
theorem Owns.grow {row:List Value} (ha:At st b row) (hb:b<B) (hB:B≤st.next) (hl:st.lim≤B) (ow:Owns B st L) {k:Nat} {v:Value} {c rw':List Value} {z n bt:Nat} (hk:L[k]?=some ⟨v,c,z,n⟩) (hkr:k<row.length) (hr:rw'.length=z) (hz:0<z) (h1:rw'.all one=true) (hs:(n+2)*bt≤2^44) (hn:n+1≤2^44):
  ∃ w s1 s2,(st.new (.cells rw' z)).app z bt v (.slice (some ⟨st.next,0,none⟩) 1 1)=some (w,s1)∧s1.stV b k 1 w=some s2∧At s2 b (row.set k w)∧Owns B s2 (L.set k ⟨w,c++rw',z,n+1⟩)∧FrL b st L s2 (L.set k ⟨w,c++rw',z,n+1⟩):=by
 obtain ⟨j,s1,f1,f2,f3⟩:=ow.push hk hB hl hr hz h1 hs hn
 have a1:=ha.keepB f3 hb (by simp)
 obtain ⟨s2,e2,a2,m2,n2⟩:=a1.stV (k:=k) (n:=1) (v:=.slice (some ⟨j,0,none⟩) (n+1) (n+1)) (zj9 _ _ _) rfl rfl (zl5 hkr _)
 refine ⟨_,s1,s2,f1,e2,a2,f2.modLt m2 (by intro m hm;have e:m=b:=(by simpa using hm);omega),?_⟩
 have hlt:k<L.length:=(List.getElem?_eq_some_iff.1 hk).1
 obtain ⟨j',s1',g1,g2,g3,g4,g5,g6⟩:=zg1 (row:=rw') (bt:=bt) (ow.own k _ hk) hB hl hr hz h1 hs hn
 have hsame:=f1.symm.trans g1
 simp only [zsj,zpj,Value.slice.injEq,Addr.mk.injEq,and_true,true_and] at hsame
 obtain ⟨e1,e2'⟩:=hsame
 subst e1
 subst e2'
 refine ⟨zlt f3.next m2.next,m2.lim.trans f3.lim,fun q h1 h2 h3=>⟨(m2.keep q (zll h1 f3.next) (by simpa using h2)).trans (g6 q h1 (h3 k _ hk)),fun m o ho e=>?_⟩⟩
 by_cases hm:m=k
 ·subst hm
  rw [List.getElem?_set_self hlt] at ho
  cases ho
  cases e
  omega
 ·rw [List.getElem?_set_ne (fun e=>hm e.symm)] at ho
  exact h3 m o ho e
end
structure V6 where
 n:Value
 m:Value
 l:Value
 p:Value
 e:Value
 a:Value
def nmR (x:List UInt8×Int):List Value:=[.string (mkS x.1)]
def nuR (x:List UInt8×Int):List Value:=[.int .i64 x.2]
def lnR (x:WItem):List Value:=lnRow x.2
def plR (x:WItem):List Value:=[.int .i64 x.1]
def veR (x:Val×Nat×Nat):List Value:=valRow x.1
theorem zto (l:Nms):rowsF nmR l=strs (l.map (·.1)):=by
 induction l with
 | nil=>rfl
 | cons x r ih=>rw [zcP,ih];rfl
def LO (v:V6) (l:Lay) (its:List WItem):List OL:=[⟨v.n,rowsF nmR l.nms,1,l.nms.length⟩,⟨v.m,rowsF nuR l.nms,1,l.nms.length⟩,⟨v.l,rowsF lnR its,5,its.length⟩,⟨v.p,rowsF plR its,1,its.length⟩,⟨v.e,rowsF veR l.ents,3,l.ents.length⟩,⟨v.a,rowsF entRow l.ents,2,l.ents.length⟩]
def ldRow (v:V6) (pl:Nat):List Value:=[v.n,v.m,v.l,v.p,v.e,v.a,.int .i64 pl]
structure Rld (st0 st:SS) (B b:Nat) (v:V6) (l:Lay) (its:List WItem):Prop where
 ext:Ext st0 st
 ll:st0.lim≤st0.next
 row:At st b (ldRow v l.pl)
 b0:st0.next≤b
 bB:b<B
 BN:B≤st.next
 ow:Owns B st (LO v l its)
 wds:its.map (fun x=>(x.1,x.2.1))=l.wds
 itr:∀ x∈its,Rd st0 x.2.2.1 (rowsF valRow x.2.1.args) 3 x.2.1.args.length∧Rd st0 x.2.2.2 (rowsF prRow x.2.1.prs) 5 x.2.1.prs.length
section
variable {st0 st st' : SS} {B b : Nat} {v : V6} {l : Lay} {its : List WItem}
theorem Rld.then (h:Rld st0 st B b v l its) (x:Ext st st'):Rld st0 st' B b v l its:=
 { h with ext:=h.ext.trans x,row:=h.row.ext x,BN:=zlt h.BN x.next,ow:=h.ow.ext x }
theorem Rld.limB (h:Rld st0 st B b v l its):st.lim≤B:=by rw [h.ext.lim];have:=h.ll;have:=h.b0;have:=h.bB;omega
theorem Rld.place (h:Rld st0 st B b v l its) (p:Nat):∃ st',st.st b 6 [.int .i64 p]=some st'∧Rld st0 st' B b v { l with pl:=p } its∧Mod [b] st st':=by
 obtain ⟨s',e,a,m,_⟩:=h.row.sto (k:=6) (vs:=[.int .i64 p]) (row':=ldRow v p) rfl rfl
 exact ⟨s',e,{ h with ext:=zay h.ext m h.b0,row:=a,BN:=zlt h.BN m.next,ow:=h.ow.modLt m (by intro j hj;have e:j=b:=(by simpa using hj);have:=h.bB;omega) },m⟩
theorem zoV:∀ (l:Nms) (n:List UInt8),match zbT l n with
  | none=>inT (l.map (·.1)) n= -1
  | some x=>∃ k:Nat,inT (l.map (·.1)) n=k∧∃ y,l[k]?=some (y,x)
 | [],n=>rfl
 | a::r,n=>by
   have ih:=zoV r n
   unfold zbT inT
   rw [List.find?_cons,List.map_cons,List.findIdx?_cons]
   by_cases h:n=a.1
   ·rw [zdt h,zdt h.symm]
    exact ⟨0,rfl,a.1,rfl⟩
   ·rw [zdf h,zdf (fun e=>h e.symm)]
    unfold zbT inT at ih
    simp only
    cases hf:r.find? (fun x=>decide (n=x.1)) with
    | none=>
      rw [hf] at ih
      cases hi:(r.map (·.1)).findIdx? (fun x=>decide (x=n)) with
      | none=>simp [hi]
      | some k=>rw [hi] at ih;simp at ih
    | some y=>
      rw [hf] at ih
      simp only [Option.map_some] at ih ⊢
      obtain ⟨k,h1,h2⟩:=ih
      cases hi:(r.map (·.1)).findIdx? (fun x=>decide (x=n)) with
      | none=>rw [hi] at h1;simp at h1
      | some j=>
        rw [hi] at h1
        refine ⟨j+1,by simp,?_⟩
        have:k=j:=by simp only at h1;omega
        subst this
        simpa using h2
theorem Rld.define [Sym] (h:Rld st0 st B b v l its) (hsz:l.nms.length≤1000000) (n:List UInt8) (x:Int):
  match l.define n x with
  | none=>∃ st',cc 74 [ptr b 0,.string (mkS n),.int .i64 x] st=some (.bool false,st')∧Ext st st'
  | some l'=>∃ st' v',cc 74 [ptr b 0,.string (mkS n),.int .i64 x] st=some (.bool true,st')∧Rld st0 st' B b v' l' its∧FrL b st (LO v l its) st' (LO v' l' its):=by
 have hnl:zau (ptr b 0)=some (ptr b 0):=rfl
 have l3:st.ld b 0=some v.n:=h.row.ld
 have on:Rd st v.n (strs (l.nms.map (·.1))) 1 (l.nms.map (·.1)).length:=by
  have:=(h.ow.own 0 _ rfl).rd
  rw [zto] at this
  rw [List.length_map]
  exact this
 obtain ⟨n4,hn4,c4⟩:=in_ok (l.nms.map (·.1)) (by simp;omega) (mkS n) v.n st on
 rw [zbO] at c4
 have x4:Ext st (st.adv n4):=(Ext.refl _).adv hn4
 have hfi:=zoV l.nms n
 unfold Lay.define
 cases hf:zbT l.nms n with
 | some y=>
   rw [hf] at hfi
   obtain ⟨k,h1,_⟩:=hfi
   rw [if_pos (.inl rfl)]
   refine ⟨_,zb1 _ _ _ st ?_,x4⟩
   have h0:(0:Int)≤inT (l.nms.map (·.1)) n:=by omega
   simp only [zbL,hnl,zob,zad,l3,c4,zaa,zdt h0,zct]
 | none=>
   rw [hf] at hfi
   simp only at hfi
   have h0:¬ (0:Int)≤inT (l.nms.map (·.1)) n:=by omega
   have he:eqT (mkS n) ⟨#[]⟩=decide (n=[]):=zd9 _
   by_cases hn:n=[]
   ·rw [if_pos (.inr hn)]
    refine ⟨_,zb1 _ _ _ st ?_,x4⟩
    simp only [zbL,hnl,zob,zad,l3,c4,zaa,zdf h0,zcf,he,zdt hn,zct]
   ·rw [if_neg (by rintro (e | e);cases e;exact hn e)]
    have h4:=h.then x4
    have l8:(st.adv n4).ld b 0=some v.n:=h4.row.ld
    obtain ⟨w1,s10,s13,f1,f2,f3,f4,f5⟩:=Owns.grow (k:=0) (bt:=16) (rw':=nmR (n,x)) h4.row h4.bB h4.BN h4.limB h4.ow rfl (by simp [ldRow]) rfl (by omega) rfl (by omega) (by omega)
    have f1':((st.adv n4).new (.cells [.string (mkS n)] 1)).app 1 16 v.n (.slice (some ⟨n4,0,none⟩) 1 1)=some (w1,s10):=f1
    have l16:s13.ld b (0+1)=some v.m:=f3.ld
    obtain ⟨w2,s18,s21,g1,g2,g3,g4,g5⟩:=Owns.grow (k:=1) (bt:=8) (rw':=nuR (n,x)) f3 h4.bB (zlt h4.BN f5.next) (by rw [f5.lim];exact h4.limB) f4 rfl (by simp [ldRow]) rfl (by omega) rfl (by omega) (by omega)
    have g1':(s13.new (.cells [.int .i64 x] 1)).app 1 8 v.m (.slice (some ⟨s13.next,0,none⟩) 1 1)=some (w2,s18):=g1
    have g2':s18.stV b (0+1) 1 w2=some s21:=g2
    have e2:LO { v with n:=w1,m:=w2 } { l with nms:=l.nms++[(n,x)] } its=((LO v l its).set 0 ⟨w1,rowsF nmR l.nms++nmR (n,x),1,l.nms.length+1⟩).set 1 ⟨w2,rowsF nuR l.nms++nuR (n,x),1,l.nms.length+1⟩:=by
     simp only [LO,zbQ,zdd,List.length_append,List.length_cons,List.length_nil]
     rfl
    have fr:FrL b st (LO v l its) s21 (LO { v with n:=w1,m:=w2 } { l with nms:=l.nms++[(n,x)] } its):=by
     rw [e2]
     exact ((FrL.ext x4).trans f5).trans g5
    refine ⟨s21,{ v with n:=w1,m:=w2 },zb1 _ _ _ st ?_,{ h with ext:=fr.toExt h.ext h.b0 h.ow (by have:=h.b0;have:=h.bB;omega),row:=g3,BN:=zlt h.BN fr.next,ow:=by rw [e2];exact g4 },fr⟩
    simp only [zbL,hnl,zob,zad,l3,c4,zaa,zdf h0,zcf,he,zdf hn,l8,List.append_nil,SS.adv_next,f1',f2,l16,g1',g2']
end
end Go.Proofs.YtifploedaacedaaGreatDoorE
namespace Go.Proofs.YtifploedaacedaaGreatDoorE
set_option maxRecDepth 20000
open Go Go.E Go.Proofs
def zd1:LoopI:=⟨[(0,.int .i64),(3,.str)],[(.exit 0,[(3,.str)])]⟩
def zei (n:Nat):Option LoopI:=cond (Nat.beq n 3) (some zd1) (none)
noncomputable def zfl (cf:zan) (lf:zac) (n':Int) (st:SS):Option (Value×SS):=
 let a:Int:=Int.tmod n' 10
 let b:Int:=IntKind.wrap .i64 (48+a)
 let c:Int:=IntKind.wrap .u8 b
 let d:SS:=(st.ro st.next).new (.cells ([.int .u8 c]) 1)
 (d.bytes (.slice (some ⟨(st.ro st.next).next,0,none⟩) 1 1)).bind fun e=>
 let f:Int:=IntKind.wrap .i64 (Int.tdiv n' 10)
 (lf 3 [.int .i64 f,.string e] d).bind fun g=>
 ((g.2.1[0]?).bind asS).bind fun h=>
 some (.string h,st.adv g.2.2.next)
noncomputable abbrev zbV:zac:=lS Tryz.prog Lk0 Tryz.f25 zei
theorem zg7:Lk0.func 25=some (25,Tryz.f25):=by kernel_rfl
theorem zg8 [Sym] (n':Int) (st:SS) {r:Value×SS} (h:zfl cc zbV n' st=some r):cc 25 [.int .i64 n'] st=some r:=
 zaf (li:=zei) zai zar zg7 rfl (fun _=>rfl) (.trans (by kernel_rfl) h)
noncomputable def zbW (cf:zan) (lf:zac) (n':Int) (s':ByteArray) (st:SS):Option (Nat×List Value×SS):=
 cond (decide (0<n')) (
 let n1:Int:=Int.tmod n' 10
 let n2:Int:=IntKind.wrap .i64 (48+n1)
 let n3:Int:=IntKind.wrap .u8 n2
 let st4:SS:=st.new (.cells ([.int .u8 n3]) 1)
 (st4.bytes (.slice (some ⟨st.next,0,none⟩) 1 1)).bind fun s5=>
 (((zdU s5 s').bind fun s=>some (.string s)).bind asS).bind fun s6=>
 let n7:Int:=IntKind.wrap .i64 (Int.tdiv n' 10)
 lf 3 [.int .i64 n7,.string s6] st4) (
 some (0,[.string s'],st))
theorem zck [Sym] (n':Int) (s':ByteArray) (st:SS) {r:Nat×List Value×SS} (h:zbW cc zbV n' s' st=some r):zbV 3 [.int .i64 n',.string s'] st=some r:=
 zaA zai zar (key:=3) (I:=zd1) rfl (by kernel_rfl) (by kernel_rfl) rfl rfl (.trans (by kernel_rfl) h)
end Go.Proofs.YtifploedaacedaaGreatDoorE
namespace Go.Proofs.YtifploedaacedaaGreatDoorE
set_option maxRecDepth 100000
open Go Go.E Go.Proofs
theorem zjS (c x:UInt8) (l:List UInt8):pieces c (x::l)=if x=c then []::pieces c l else match pieces c l with
  | []=>[[x]]
  | y::z=>(x::y)::z:=rfl
theorem zqN (c:UInt8) (a b:List UInt8):pieces c (a++c::b)=pieces c a++pieces c b:=by
 induction a with
 | nil=>
   show pieces c (c::b)=pieces c []++_
   conv=>lhs;unfold pieces
   rw [if_pos rfl];rfl
 | cons x a ih=>
   rw [List.cons_append]
   rw [zjS,zjS c x a,ih]
   split
   ·rfl
   ·cases hp:pieces c a with
    | nil=>exact absurd hp (zdV c a)
    | cons y z=>rfl
theorem zqO {c:UInt8} {l:List UInt8} (h:c∉l):pieces c l=[l]:=by
 induction l with
 | nil=>rfl
 | cons x l ih=>
   simp only [List.mem_cons,not_or] at h
   unfold pieces
   rw [if_neg (fun e=>h.1 e.symm),ih h.2]
def zd2 (n:Nat):UInt8:=UInt8.ofNat (48+n%10)
def zlc:Nat→Nat→List UInt8→List UInt8
 | 0,_,s=>s
 | k+1,n,s=>if n=0 then s else zlc k (n/10) (zd2 n::s)
def zmU (n:Nat):List UInt8:=zlc 5 (n/10) [zd2 n]
theorem zoW {n:Nat} (hn:n≤1000000):Int.tmod (n:Int) 10=((n%10:Nat):Int)∧IntKind.wrap .i64 (48+((n%10:Nat):Int))=((48+n%10:Nat):Int)∧IntKind.wrap .u8 (((48+n%10:Nat)):Int)=((zd2 n).toNat:Int)∧IntKind.wrap .i64 (Int.tdiv (n:Int) 10)=((n/10:Nat):Int):=by
 have h10:=Nat.mod_lt n (show 0<10 by omega)
 refine ⟨by rw [Int.tmod_eq_emod_of_nonneg (by omega)];rfl,?_,?_,?_⟩
 ·rw [wrap64 (by omega) (by omega)];omega
 ·rw [zgR (by omega) (by omega)]
  unfold zd2
  rw [UInt8.toNat_ofNat']
  omega
 ·have:Int.tdiv (n:Int) 10=((n/10:Nat):Int):=by rw [Int.tdiv_eq_ediv_of_nonneg (by omega)];rfl
  rw [this]
  exact wrap64 (by omega) (by omega)
theorem znz (n:Nat):zeo [.int .u8 ((zd2 n).toNat:Int)]=some [zd2 n]:=by
 simp only [zeo]
 simp
theorem zkJ [Sym]:∀ (k n:Nat) (s:List UInt8) (st:SS),n<10^k→n≤1000000→s.length+k≤1000→k≤10→∃ st',Ext st st'∧zbV 3 [.int .i64 n,.string (mkS s)] st=some (0,[.string (mkS (zlc k n s))],st')
 | 0,n,s,st,hn,hb,hs,hk=>by
   have e:n=0:=by simpa using hn
   subst e
   have h:¬ (0:Int)<((0:Nat):Int):=by omega
   refine ⟨st,Ext.refl _,zck _ _ st ?_⟩
   simp only [zbW,zdf h,zcf]
   rfl
 | k+1,n,s,st,hn,hb,hs,hk=>by
   by_cases h0:n=0
   ·have h:¬ (0:Int)<(n:Int):=by omega
    refine ⟨st,Ext.refl _,zck _ _ st ?_⟩
    simp only [zbW,zdf h,zcf,zlc,if_pos h0]
   ·have h:(0:Int)<(n:Int):=by omega
    obtain ⟨d1,d2,d3,d4⟩:=zoW hb
    have x1:Ext st (st.new (.cells [.int .u8 ((zd2 n).toNat:Int)] 1)):=(Ext.refl _).new _
    have hby:=zkD (st:=st.new (.cells [.int .u8 ((zd2 n).toNat:Int)] 1)) (b:=st.next) (z:=1) (n:=1) (cap:=1) SS.new_get rfl (znz n)
    have hcat:zdU (mkS [zd2 n]) (mkS s)=some (mkS (zd2 n::s)):=zhW (a:=[zd2 n]) (b:=s) (by simp;omega)
    obtain ⟨st',x2,hl⟩:=zkJ k (n/10) (zd2 n::s) (st.new (.cells [.int .u8 ((zd2 n).toNat:Int)] 1)) (by rw [Nat.pow_succ] at hn;omega) (by omega) (by simp;omega) (by omega)
    refine ⟨st',x1.trans x2,zck _ _ st ?_⟩
    simp only [zbW,zdt h,zct,d1,d2,d3,d4,hby,zob,hcat,zab]
    rw [hl]
    simp only [zlc,if_neg h0]
theorem zsf [Sym] (n:Nat) (hn:n<100000) (st:SS):∃ N,st.next≤N∧cc 25 [.int .i64 n] st=some (.string (mkS (zmU n)),st.adv N):=by
 obtain ⟨d1,d2,d3,d4⟩:=zoW (n:=n) (by omega)
 have hby:=zkD (st:=(st.ro st.next).new (.cells [.int .u8 ((zd2 n).toNat:Int)] 1)) (b:=st.next) (z:=1) (n:=1) (cap:=1) (SS.new_get (st:=st.ro st.next)) rfl (znz n)
 obtain ⟨st',x2,hl⟩:=zkJ 5 (n/10) [zd2 n] ((st.ro st.next).new (.cells [.int .u8 ((zd2 n).toNat:Int)] 1)) (by omega) (by omega) (by simp) (by omega)
 refine ⟨st'.next,by have:=x2.next;simp at this;omega,zg8 _ st ?_⟩
 simp only [zfl,d1,d2,d3,d4,SS.ro_next,hby,zob]
 rw [hl]
 rfl
def P1 (p:List UInt8):Option (PLine×Bool):=match zb4 p with
 | .error _=>none
 | .ok ts=>match readT ts with
   | .error _=>none
   | .ok x=>some (x,decide (1<ts.length))
def zdy:Nat→List (PLine×Bool)→List PLine
 | _,[]=>[]
 | i,x::r=>if x.2=true then { x.1 with ln:=i+1 }::zdy (i+1) r else zdy (i+1) r
theorem zmc:∀ (ps:List (List UInt8)) (xs:List (PLine×Bool)) (i:Nat),ps.map P1=xs.map some→∃ tss,zcr i ps=.ok tss∧zcy i tss=.ok (zdy i xs)
 | [],xs,i,h=>by
   cases xs with
   | nil=>exact ⟨[],rfl,rfl⟩
   | cons x r=>cases h
 | p::r,xs,i,h=>by
   cases xs with
   | nil=>cases h
   | cons x xr=>
     simp only [List.map_cons,List.cons.injEq] at h
     obtain ⟨h1,h2⟩:=h
     obtain ⟨tss,g1,g2⟩:=zmc r xr (i+1) h2
     unfold P1 at h1
     cases hl:zb4 p with
     | error c=>rw [hl] at h1;cases h1
     | ok ts=>
       rw [hl] at h1
       simp only at h1
       cases hr:readT ts with
       | error o=>rw [hr] at h1;cases h1
       | ok y=>
         rw [hr] at h1
         cases h1
         refine ⟨ts::tss,by unfold zcr;rw [hl,g1],?_⟩
         unfold zcy
         rw [hr]
         simp only
         rw [g2]
         simp only [zdy]
         by_cases hk:1<ts.length
         ·simp only [hk,decide_true,if_true]
         ·simp only [hk,decide_false,if_false,Bool.false_eq_true]
theorem zpt {t:List UInt8} {xs:List (PLine×Bool)} (h:(pieces 10 t).map P1=xs.map some):zgp t=.ok (zdy 0 xs):=by
 obtain ⟨tss,g1,g2⟩:=zmc _ xs 0 h
 unfold zgp
 rw [g1]
 exact g2
def c_org:List UInt8:=[46,111,114,103,32]
def c_end:List UInt8:=[115,101,113,61,101,110,100]
def zuw:List UInt8:=[46,97,108,105,103,110,32]
def c_here:List UInt8:=[104,101,114,101,58,32,115,101,113,61,106,109,112,32,116,111,61,104,101,114,101]
def ends:Nat→List UInt8
 | 0=>[]
 | k+1=>ends k++(c_end++[10])
def zhQ (o a w:Nat):List UInt8:=(c_org++zmU o++[10])++ends w++zuw++zmU a++([10]++c_here++[10])
def zn0:List UInt8:=[115,101,113]
theorem P1_nil:P1 []=some (⟨0,[],[],[],[]⟩,false):=by kernel_rfl
def zg3 (x:PLine) (i:Nat):PLine:={ x with ln:=i }
end Go.Proofs.YtifploedaacedaaGreatDoorE
namespace Go.Proofs.YtifploedaacedaaGreatDoorE
open Go Go.E Go.Proofs
def zhp (k:Nat):Nat:=(zcg.drop k).sum
theorem zmd {k:Nat} (h:k<12):zhp k=zav k+zhp (k+1)∧zhp k≤64:=by
 have:∀ k,k<12→zhp k=zav k+zhp (k+1)∧zhp k≤64:=by decide+kernel
 exact this k h
theorem znA {w:Wd} (hw:w.length=12):zeb (zcg.drop 12) (w.drop 12)=0:=by
 rw [List.drop_of_length_le (l:=w) (by omega)]
 rfl
theorem zme {w:Wd} (hw:w.length=12) {k:Nat} (h:k<12):zeb (zcg.drop k) (w.drop k)=w.getD k 0+2^zav k*zeb (zcg.drop (k+1)) (w.drop (k+1)):=by
 rw [zl6 h,getD_drop (by omega)];rfl
theorem zqP {w:Wd} (hw:w.length=12) (hg:zbv w=true):∀ (m k:Nat),12=m+k→∃ X:Nat,zeb (zcg.drop k) (w.drop k)=X∧X<2^zhp k
 | 0,k,h=>by
   have:k=12:=by omega
   subst this
   exact ⟨0,znA hw,Nat.two_pow_pos _⟩
 | m+1,k,h=>by
   obtain ⟨X,h1,h2⟩:=zqP hw hg m (k+1) (by omega)
   obtain ⟨p,hp,hlt⟩:=zeQ hg (k:=k) (by omega)
   have ht:=(zmd (k:=k) (by omega)).1
   refine ⟨p+2^zav k*X,by rw [zme hw (by omega),h1,hp];push_cast;rfl,?_⟩
   rw [ht,Nat.pow_add]
   have h3:2^zav k*(X+1)≤2^zav k*2^zhp (k+1):=Nat.mul_le_mul_left _ h2
   rw [Nat.mul_add,Nat.mul_one] at h3
   omega
theorem zmf [Sym] (w:Wd) (hw:w.length=12) (hg:zbv w=true) (j:Nat) (base:SS) (hj:base.mem.get j=some (.cells (wRow w) 1)) (hlt:j<base.next):∀ (m:Nat),m≤12→∀ (s:SS),Ext base s→
  ∃ s',Ext s s'∧zbI 4 [.int .u64 (zeb (zcg.drop m) (w.drop m)),.slice (some ⟨j,0,none⟩) 12 12,.int .i64 ((m:Int)-1)] s=some (0,[.int .u64 (zdv w)],s')
 | 0,_,s,he=>by
   have h:¬ (0:Int)≤((0:Nat):Int)-1:=by omega
   refine ⟨s,Ext.refl _,zd0 _ _ _ s ?_⟩
   simp only [zc7,zdf h,zcf]
   rfl
 | m+1,hm,s,he=>by
   have e1:(((m+1:Nat):Int)-1)=(m:Int):=by omega
   rw [e1]
   have h:(0:Int)≤(m:Int):=by omega
   have c1:=zpR (s.ro s.next)
   have x1:Ext s (((s.ro s.next).new (.cells (wRow zeH) 1)).ro s.lim):=⟨by simp,rfl,fun i hi=>by show ((s.ro s.next).new _).mem.get i=_;rw [SS.new_old (by simp;omega)];rfl⟩
   have m1:(((s.ro s.next).new (.cells (wRow zeH) 1)).ro s.lim).mem.get s.next=some (.cells (wRow zeH) 1):=SS.new_get (st:=s.ro s.next)
   have hmi:m<12:=by omega
   have el:∀ i:Nat,zaw (.slice (some ⟨i,0,none⟩) 12 12) (m:Int) 1=some (i,0+m*1):=fun i=>plS hmi
   have l3:(((s.ro s.next).new (.cells (wRow zeH) 1)).ro s.lim).ld s.next (0+m*1)=some (.int .i64 ((2^zav m:Nat):Int)):=by
    rw [SS.ld_cells m1,Nat.zero_add,Nat.mul_one]
    exact zoN (by omega)
   have m2:(((s.ro s.next).new (.cells (wRow zeH) 1)).ro s.lim).mem.get j=some (.cells (wRow w) 1):=(he.trans x1).get hlt hj
   obtain ⟨p,hp,hpl⟩:=zeQ hg (k:=m) (by omega)
   have l7:(((s.ro s.next).new (.cells (wRow zeH) 1)).ro s.lim).ld j (0+m*1)=some (.int .i64 (p:Int)):=by
    rw [SS.ld_cells m2,Nat.zero_add,Nat.mul_one,zeO,getD_some (by omega),hp];rfl
   obtain ⟨X,hX,hXl⟩:=zqP hw hg (12-(m+1)) (m+1) (by omega)
   obtain ⟨Y,hY,hYl⟩:=zqP hw hg (12-m) m (by omega)
   have ht:=zmd (k:=m) (by omega)
   have hpow:2^zav m≤2^11:=Nat.pow_le_pow_right (by omega) (zhl m)
   have hYb:Y<2^64:=zll hYl (Nat.pow_le_pow_right (by omega) ht.2)
   have hstep:=zme hw (k:=m) (by omega)
   rw [hX,hY,hp] at hstep
   have hYe:Y=p+2^zav m*X:=by
    have h2:((p+2^zav m*X:Nat):Int)=(Y:Int):=by rw [hstep];push_cast;rfl
    omega
   have hXY:X*2^zav m≤Y:=by rw [Nat.mul_comm];omega
   have w4:IntKind.wrap .u64 ((2^zav m:Nat):Int)=((2^zav m:Nat):Int):=zc5 (by omega) (by omega)
   have w5:IntKind.wrap .u64 ((X:Int)*((2^zav m:Nat):Int))=((X*2^zav m:Nat):Int):=by
    rw [← Int.natCast_mul]
    exact zc5 (by omega) (by omega)
   have w8:IntKind.wrap .u64 (p:Int)=(p:Int):=zc5 (by omega) (by omega)
   have w9:IntKind.wrap .u64 (((X*2^zav m:Nat):Int)+(p:Int))=(Y:Int):=by
    have:((X*2^zav m:Nat):Int)+(p:Int)=(Y:Int):=by rw [hYe,Nat.mul_comm];push_cast;omega
    rw [this]
    exact zc5 (by omega) (by omega)
   have w10:IntKind.wrap .i64 ((m:Int)-1)=(m:Int)-1:=wrap64 (by omega) (by omega)
   obtain ⟨s',hs',ih⟩:=zmf w hw hg j base hj hlt m (by omega) _ (he.trans x1)
   rw [hY] at ih
   rw [hX]
   refine ⟨s',x1.trans hs',zd0 _ _ _ s ?_⟩
   simp only [zc7,zdt h,zct,c1,zob,el,SS.ro_next,l3,l7,zaa,w4,w5,w8,w9,w10]
   exact ih
theorem ztp [Sym] (w:Wd) (hw:zen w) (st:SS):∃ n,st.next≤n∧cc 18 [wV w] st=some (.int .u64 (zdv w),st.adv n):=by
 have hc:(wV w).cells.toList=wRow w:=zaF _
 have hm:((st.ro st.next).new (.cells (wRow w) 0)).mem.get st.next=some (.cells (wRow w) 0):=SS.new_get (st:=st.ro st.next)
 have l2:((st.ro st.next).new (.cells (wRow w) 0)).ldN st.next 0 12=some (wV w):=by rw [SS.ldN_cells hm,zdF (by rw [zaW,hw.1])];rfl
 have c3:=zk6 w hw.1 ((st.ro st.next).new (.cells (wRow w) 0))
 have hj:((((st.ro st.next).new (.cells (wRow w) 0)).new (.cells (wRow w) 0)).new (.cells (wRow w) 1)).mem.get (((st.ro st.next).new (.cells (wRow w) 0)).next+1)=some (.cells (wRow w) 1):=SS.new_get (st:=((st.ro st.next).new (.cells (wRow w) 0)).new (.cells (wRow w) 0))
 obtain ⟨s',hs',hl⟩:=zmf w hw.1 hw.2 _ _ hj (by simp) 12 (zlr _) _ (Ext.refl _)
 rw [znA hw.1] at hl
 have hl':zbI 4 [.int .u64 0,.slice (some ⟨((st.ro st.next).new (.cells (wRow w) 0)).next+1,0,none⟩) 12 12,.int .i64 11] ((((st.ro st.next).new (.cells (wRow w) 0)).new (.cells (wRow w) 0)).new (.cells (wRow w) 1))=_:=hl
 refine ⟨s'.next,by have:=hs'.next;simp at this;omega,zif _ st ?_⟩
 simp only [zfZ,hc,SS.ro_next,l2,zob,c3]
 rw [hl',zob]
 rfl
end Go.Proofs.YtifploedaacedaaGreatDoorE
namespace Go.Proofs.YtifploedaacedaaGreatDoorE
open Go Go.E Go.Proofs
theorem znB:∀ (k f n:Nat) (s:List UInt8),s≠[]→n<10^k→n<f→zlc k n s=zcZ 10 zbg f n s
 | 0,f,n,s,hs,hn,hf=>by
   have h0:n=0:=by simpa using hn
   subst h0
   obtain ⟨f,rfl⟩:∃ g,f=g+1:=⟨f-1,by omega⟩
   unfold zcZ
   rw [if_pos ⟨rfl,hs⟩];rfl
 | k+1,f,n,s,hs,hn,hf=>by
   obtain ⟨f,rfl⟩:∃ g,f=g+1:=⟨f-1,by omega⟩
   unfold zcZ zlc
   by_cases h0:n=0
   ·rw [if_pos h0,if_pos ⟨h0,hs⟩]
   ·rw [if_neg h0,if_neg (fun h=>h0 h.1)]
    exact znB k f (n/10) _ (by simp) (by rw [Nat.pow_succ] at hn;omega) (by omega)
theorem ztq {n:Nat} (h:n<100000):zmU n=zbl 10 zbg n:=by
 unfold zbl zmU
 rw [znB 5 (n+1) (n/10) [zd2 n] (by simp) (by omega) (by omega)]
 show _=zcZ 10 zbg (n+1+1) n []
 conv=>rhs;unfold zcZ
 rw [if_neg (fun h=>h.2 rfl)]
 rfl
def zdN (x:List UInt8×Nat):List Pc:=[.word x.1,.sign 61,.num x.2,.blank]
theorem znC (e:Tok) (he:e.kd=0):∀ (l:List (List UInt8×Nat)) (k col:Nat) (seen:List (List UInt8)),l.length≤k→(l.map (·.1)).Nodup→(∀ x∈l,x.1∉seen)→
  ∃ prs,zaZ k seen (zdu col (l.flatMap zdN)++[e])=.ok prs∧prs.map prV=l.map fun x=>(x.1,[],(x.2:Int))
 | [],k,col,seen,_,_,_=>⟨[],by
   cases k with
   | zero=>rfl
   | succ k=>
     show zaZ (k+1) seen [e]=_
     unfold zaZ
     rw [if_pos he],rfl⟩
 | x::l,k,col,seen,hk,hd,hs=>by
   rw [List.length_cons] at hk
   obtain ⟨k,rfl⟩:∃ j,k=j+1:=⟨k-1,by omega⟩
   rw [List.map_cons,List.nodup_cons] at hd
   obtain ⟨prs,h1,h2⟩:=znC e he l k (col+x.1.length+1+(zbl 10 zbg x.2).length+1) (seen++[x.1]) (by omega) hd.2 (fun y hy=>by
    rw [List.mem_append,not_or]
    refine ⟨hs y (by simp [hy]),fun hm=>hd.1 ?_⟩
    have:y.1=x.1:=by simpa using hm
    rw [← this]
    exact List.mem_map.2 ⟨y,hy,rfl⟩)
   refine ⟨⟨x.1,col+1,⟨[],x.2,col+x.1.length+1+1⟩⟩::prs,?_,by rw [List.map_cons,h2];rfl⟩
   show zaZ (k+1) seen (⟨1,x.1,0,col+1⟩::⟨3,[61],0,col+x.1.length+1⟩::⟨2,zbl 10 zbg x.2,x.2,col+x.1.length+1+1⟩::(zdu (col+x.1.length+1+(zbl 10 zbg x.2).length+1) (l.flatMap zdN)++[e]))=_
   unfold zaZ
   rw [if_neg (by show ¬ (1:Nat)=0;omega),zgq,if_pos ⟨rfl,hs x (by simp)⟩]
   simp only [show zaE (⟨3,[61],0,col+x.1.length+1⟩:Tok) [61]=true from rfl,if_true,zfd]
   show (match zaZ k (seen++[x.1]) (zdu _ (l.flatMap zdN)++[e]) with
    | .error o=>.error _
    | .ok ps=>.ok (_::ps):Except Nat (List Pr))=_
   rw [h1]
theorem zoX:∀ (l:List (List UInt8×Nat)),(∀ x∈l,isW x.1=true∧x.2≤2147483647)→zmO (l.flatMap zdN)
 | [],_=>trivial
 | x::l,h=>by
   obtain ⟨h1,h2⟩:=h x (by simp)
   rw [List.flatMap_cons]
   exact ⟨h1,(fun _=>rfl),by show (61:UInt8)∈_;simp,(fun h=>by cases h),h2,(fun _=>rfl),trivial,(fun h=>by cases h),zoX l fun y hy=>h y (by simp [hy])⟩
theorem zmV:∀ (l:List (List UInt8×Nat)) (col:Nat),(zdu col (l.flatMap zdN)).length=3*l.length
 | [],col=>rfl
 | x::l,col=>by
   show (_::_::_::zdu _ (l.flatMap zdN)).length=_
   simp only [List.length_cons,zmV l]
   omega
theorem P1_mw {x:List UInt8×Nat} {l:List (List UInt8×Nat)} (h:∀ y∈x::l,isW y.1=true∧y.2≤2147483647) (hd:((x::l).map (·.1)).Nodup):∃ prs,P1 (zcG ((x::l).flatMap zdN))=some (⟨0,[],[],[],prs⟩,true)∧prs.map prV=(x::l).map fun x=>(x.1,[],(x.2:Int)):=by
 obtain ⟨prs,h1,h2⟩:=znC (zdp (zcG ((x::l).flatMap zdN))) rfl (x::l) (zdu 0 ((x::l).flatMap zdN)++[zdp (zcG ((x::l).flatMap zdN))]).length 0 [] (by rw [List.length_append,zmV];omega) hd (fun _ _ h=>by cases h)
 refine ⟨prs,?_,h2⟩
 have hlen:1<(zdu 0 ((x::l).flatMap zdN)++[zdp (zcG ((x::l).flatMap zdN))]).length:=by
  rw [List.length_append,zmV];simp
 have hr:readT (zdu 0 ((x::l).flatMap zdN)++[zdp (zcG ((x::l).flatMap zdN))])=.ok ⟨0,[],[],[],prs⟩:=by
  obtain ⟨r,hr⟩:∃ r,zdu 0 ((x::l).flatMap zdN)++[zdp (zcG ((x::l).flatMap zdN))]=⟨1,x.1,0,0+1⟩::⟨3,[61],0,0+x.1.length+1⟩::r:=⟨_,rfl⟩
  rw [hr] at h1 ⊢
  rw [zfW,if_neg (fun h=>by have:=h.2;simp [zaE] at this),zdr,if_neg (by simp [zaE]),h1]
 unfold P1
 rw [zrT (zoX _ h)]
 simp only
 rw [hr]
 simp only [zdt hlen]
def zg4 (w:Wd):List (List UInt8×Nat):=(List.range 12).map fun k=>(zaH.getD k [],(w.getD k 0).toNat)
theorem zmh:∀ k,k<12→zeG (zaH.getD k [])=some k∧isW (zaH.getD k [])=true∧zav k≠0∧zav k≤11:=by decide+kernel
theorem fld_nd:((List.range 12).map fun k=>zaH.getD k []).Nodup:=by decide+kernel
theorem zmj {k:Nat} (h:k<12):(List.range 12).drop k=k::(List.range 12).drop (k+1):=by
 rw [List.drop_eq_getElem_cons (by simpa using h),List.getElem_range]
theorem znD {w:Wd} (hg:zbv w=true):∀ y∈zg4 w,isW y.1=true∧y.2≤2147483647:=fun y hy=>by
 obtain ⟨k,hk,rfl⟩:=List.mem_map.1 hy
 have hk:=List.mem_range.1 hk
 obtain ⟨_,h1,_,h3⟩:=zmh k hk
 obtain ⟨p,hp,hlt⟩:=zeQ hg hk
 refine ⟨h1,?_⟩
 have:=Nat.pow_le_pow_right (n:=2) (by omega) h3
 rw [hp]
 simp only [Int.toNat_natCast]
 omega
theorem take_set {α:Type} (w z:List α) {k:Nat} (hw:k<w.length) (hz:w.length=z.length) (x:α) (hx:w[k]?=some x):(w.take k++z.drop k).set k x=w.take (k+1)++z.drop (k+1):=by
 have h1:(w.take k).length=k:=by rw [List.length_take];omega
 rw [List.set_append_right _ _ (by omega),h1,Nat.sub_self,List.drop_eq_getElem_cons (by omega:k<z.length),List.set_cons_zero,List.take_add_one,hx]
 simp
theorem zoY {w:Wd} (hw:zen w) (nms:Nms):∀ (m k:Nat) (prs:List Pr),12=m+k→prs.map prV=((List.range 12).drop k).map (fun k=>(zaH.getD k [],[],((w.getD k 0).toNat:Int)))→za3 nms (w.take k++zaJ.drop k) prs=(w,0)
 | 0,k,prs,hk,hp=>by
   have:k=12:=by omega
   subst this
   have hn:prs=[]:=by
    cases prs with
    | nil=>rfl
    | cons p r=>cases hp
   subst hn
   have e:w.take 12++zaJ.drop 12=w:=by
    rw [List.take_of_length_le (by rw [hw.1];omega)]
    show w++[]=w
    simp
   rw [e];rfl
 | m+1,k,prs,hk,hp=>by
   rw [zmj (by omega),List.map_cons] at hp
   cases prs with
   | nil=>cases hp
   | cons p r=>
     rw [List.map_cons,List.cons.injEq] at hp
     obtain ⟨hp1,hp2⟩:=hp
     have q1:p.fd=zaH.getD k []:=congrArg (·.1) hp1
     have q2:p.v.nm=[]:=congrArg (·.2.1) hp1
     have q3:p.v.x=((w.getD k 0).toNat:Int):=congrArg (·.2.2) hp1
     obtain ⟨f1,f2,f3,f4⟩:=zmh k (by omega)
     obtain ⟨n,hn,hlt⟩:=zeQ hw.2 (k:=k) (by omega)
     have hx:p.v.x=(n:Int):=by rw [q3,hn];simp
     have hb:¬ zgu p.fd=0:=by unfold zgu;rw [q1,f1];exact f3
     have hnm:zf5 nms p.fd p.v=some (n:Int):=by unfold zf5;rw [if_pos q2,hx]
     have hfit:fitsT (n:Int) (zav k)=true:=by rw [znw];exact ⟨by omega,by exact_mod_cast hlt⟩
     have hwk:w[k]?=some (n:Int):=by
      have hkw:k<w.length:=by rw [hw.1];omega
      rw [List.getD_eq_getElem?_getD,zge hkw] at hn
      rw [zge hkw]
      exact congrArg some hn
     have hs:zbM (w.take k++zaJ.drop k) p.fd (n:Int)=(w.take (k+1)++zaJ.drop (k+1),0):=by
      unfold zbM
      rw [q1,f1]
      simp only
      rw [if_pos hfit,take_set w zaJ (by rw [hw.1];omega) (by rw [hw.1];rfl) _ hwk]
     unfold za3
     rw [if_neg hb,hnm]
     simp only
     rw [hs]
     simp only [if_true]
     exact zoY hw nms m (k+1) r (by omega) hp2
def zec (w:Wd):List UInt8:=zcG ((zg4 w).flatMap zdN)
def LnOk (x:PLine×Bool) (w:Wd):Prop:=x.2=true∧x.1.lab=[]∧x.1.dir=[]∧x.1.prs≠[]∧∀ nms,za3 nms zaJ x.1.prs=(w,0)
theorem zux {w:Wd} (hw:zen w):∃ x,P1 (zec w)=some x∧LnOk x w:=by
 have hc:∃ x l,zg4 w=x::l:=⟨_,_,rfl⟩
 obtain ⟨x,l,hx⟩:=hc
 have hok:=znD hw.2
 have hnd:((zg4 w).map (·.1)).Nodup:=by unfold zg4;rw [List.map_map];exact fld_nd
 rw [hx] at hok hnd
 obtain ⟨prs,h1,h2⟩:=P1_mw hok hnd
 rw [← hx] at h1 h2
 refine ⟨_,h1,rfl,rfl,rfl,?_,fun nms=>?_⟩
 ·intro h
  have h:prs=[]:=h
  rw [h,hx] at h2
  cases h2
 ·have:=zoY hw nms 12 0 prs (by omega) (by rw [h2];unfold zg4;rw [List.map_map];rfl)
  exact this
def mwT (ws:List Wd):List UInt8:=ws.flatMap fun w=>zec w++[10]
def zjT:List (PLine×Bool)→List Wd→Prop
 | [],[]=>True
 | x::r,w::ws=>LnOk x w∧zjT r ws
 | _,_=>False
theorem zoZ:∀ ws:List Wd,(∀ w∈ws,zen w)→∃ xs,(ws.map zec).map P1=xs.map some∧zjT xs ws
 | [],_=>⟨[],rfl,trivial⟩
 | w::ws,h=>by
   obtain ⟨x,h1,h2⟩:=zux (h w (by simp))
   obtain ⟨xs,h3,h4⟩:=zoZ ws fun v hv=>h v (by simp [hv])
   exact ⟨x::xs,by rw [List.map_cons,List.map_cons,List.map_cons,h1,h3],h2,h4⟩
theorem znE:∀ ws:List Wd,(∀ w∈ws,zen w)→pieces 10 (mwT ws)=ws.map zec++[[]]
 | [],_=>rfl
 | w::ws,h=>by
   have e:mwT (w::ws)=zec w++10::mwT ws:=by simp [mwT]
   have h10:(10:UInt8)∉zec w:=zoH (zoX _ (znD (h w (by simp)).2))
   rw [e,zqN,zqO h10,znE ws fun v hv=>h v (by simp [hv])]
   rfl
theorem zuy {ws:List Wd} (h:∀ w∈ws,zen w):∃ xs,zjT xs ws∧zgp (mwT ws)=.ok (zdy 0 (xs++[(⟨0,[],[],[],[]⟩,false)])):=by
 obtain ⟨xs,h1,h2⟩:=zoZ ws h
 refine ⟨xs,h2,zpt ?_⟩
 rw [znE ws h,List.map_append,h1,List.map_append]
 rw [List.map_cons,P1_nil]
 rfl
def zdR:Nat→Nat→List (PLine×Bool)→List (Nat×PLine)
 | _,_,[]=>[]
 | p,i,x::r=>(p,zg3 x.1 (i+1))::zdR (p+1) (i+1) r
theorem zsg:∀ (xs:List (PLine×Bool)) (ws:List Wd) (i:Nat) (l:Lay),zjT xs ws→l.pl+xs.length≤2048→zfG l (zdy i (xs++[(⟨0,[],[],[],[]⟩,false)]))=.ok { l with pl:=l.pl+xs.length,wds:=l.wds++zdR l.pl i xs }
 | [],ws,i,l,_,_=>by
   show zfG l []=_
   simp [zfG,zdR]
 | x::xs,ws,i,l,hok,hl=>by
   cases ws with
   | nil=>exact hok.elim
   | cons w ws=>
     obtain ⟨⟨h1,h2,h3,h4,h5⟩,h6⟩:=hok
     rw [List.length_cons] at hl
     have e1:zgw l (zg3 x.1 (i+1))=some { l with pl:=l.pl+1,wds:=l.wds++[(l.pl,zg3 x.1 (i+1))] }:=by
      rw [zk9,if_pos (show (zg3 x.1 (i+1)).lab=[] from h2)]
      rw [zob]
      unfold zho
      rw [if_neg (fun h=>h (show (zg3 x.1 (i+1)).dir=[] from h3)),if_neg (show ¬ (zg3 x.1 (i+1)).prs=[] from h4),if_pos (by omega)]
     have e2:zdy i (x::xs++[(⟨0,[],[],[],[]⟩,false)])=zg3 x.1 (i+1)::zdy (i+1) (xs++[(⟨0,[],[],[],[]⟩,false)]):=by
      show (if x.2=true then _ else _)=_
      rw [if_pos h1];rfl
     rw [e2]
     show (match zgw l (zg3 x.1 (i+1)) with | none=>_ | some l'=>zfG l' _)=_
     rw [e1]
     simp only
     rw [zsg xs ws (i+1) _ h6 (by simp only;omega)]
     simp only [List.length_cons,zdR,List.append_assoc,List.cons_append,List.nil_append,show l.pl+1+xs.length=l.pl+(xs.length+1) by omega]
theorem zjT.len:∀ {xs:List (PLine×Bool)} {ws:List Wd},zjT xs ws→xs.length=ws.length
 | [],[],_=>rfl
 | x::r,w::ws,h=>by rw [List.length_cons,List.length_cons,zjT.len h.2]
 | [],_::_,h=>h.elim
 | _::_,[],h=>h.elim
theorem zo0 (nms:Nms) (N:Nat):∀ (xs:List (PLine×Bool)) (ws:List Wd) (p i:Nat) (acc:List Wd),zjT xs ws→(∀ w∈ws,w.getD 8 0=7)→acc.length=p+xs.length→zcC nms N (zdR p i xs) acc=.ok (acc.take p++ws)
 | [],ws,p,i,acc,hok,h7,hl=>by
   cases ws with
   | cons w ws=>exact hok.elim
   | nil=>
     show Except.ok acc=_
     rw [List.take_of_length_le (by simp at hl;omega),List.append_nil]
 | x::xs,ws,p,i,acc,hok,h7,hl=>by
   cases ws with
   | nil=>exact hok.elim
   | cons w ws=>
     obtain ⟨⟨h1,h2,h3,h4,h5⟩,h6⟩:=hok
     rw [List.length_cons] at hl
     have he:za3 nms zaJ (zg3 x.1 (i+1)).prs=(w,0):=h5 nms
     have hr:zcT (w.getD 8 0) (w.getD 10 0) p=[]:=by rw [h7 w (by simp)];rfl
     have ih:=zo0 nms N xs ws (p+1) (i+1) (acc.set p w) h6 (fun v hv=>h7 v (by simp [hv])) (by rw [List.length_set];omega)
     show zcC nms N ((p,zg3 x.1 (i+1))::zdR (p+1) (i+1) xs) acc=_
     unfold zcC
     simp only
     rw [he]
     simp only [hr,List.any_nil]
     rw [if_neg (by simp),if_neg (by simp),ih]
     congr 1
     have hp:p<(acc.set p w).length:=by rw [List.length_set];omega
     rw [List.take_add_one,List.getElem?_set_self (by omega),List.take_set_of_le (zlr _)]
     simp
theorem zmk:∀ (xs:List (PLine×Bool)) (p i:Nat) (y:PLine×Bool),((zdR p i (y::xs)).getLast?).map (·.1)=some (p+xs.length)
 | [],p,i,y=>rfl
 | x::xs,p,i,y=>by
   have:=zmk xs (p+1) (i+1) x
   show (((p,_)::zdR (p+1) (i+1) (x::xs)).getLast?).map (·.1)=_
   have e:zdR (p+1) (i+1) (x::xs)=(p+1,zg3 x.1 (i+1+1))::zdR (p+1+1) (i+1+1) xs:=rfl
   rw [e,List.getLast?_cons_cons,← e,this,List.length_cons]
   congr 1;omega
theorem mw_rom {ws:List Wd} (h:∀ w∈ws,zen w) (h7:∀ w∈ws,w.getD 8 0=7) (hn:ws.length≤2048):asmT (mwT ws)=.ok (ws,[]):=by
 obtain ⟨xs,h1,h2⟩:=zuy h
 have hlen:=h1.len
 unfold asmT
 rw [h2]
 simp only
 rw [zsg xs ws 0 zem h1 (by show 0+_≤_;omega)]
 simp only [zhK]
 have hs:sizeT { zem with pl:=zem.pl+xs.length,wds:=zem.wds++zdR zem.pl 0 xs }=xs.length:=by
  unfold sizeT
  show (match (zdR 0 0 xs).getLast? with | none=>0 | some x=>x.1+1)=_
  cases xs with
  | nil=>rfl
  | cons y r=>
    have:=zmk r 0 0 y
    cases hq:(zdR 0 0 (y::r)).getLast? with
    | none=>rw [hq] at this;cases this
    | some z=>
      rw [hq] at this
      have hz:z.1=0+r.length:=by injection this
      simp only [List.length_cons]
      omega
 rw [hs]
 have hw:=zo0 ([]:Nms) xs.length xs ws 0 0 (List.replicate xs.length zaJ) h1 h7 (by rw [List.length_replicate];omega)
 have hw':zcC zem.nms xs.length (zem.wds++zdR zem.pl 0 xs) (List.replicate xs.length zaJ)=.ok ws:=by
  rw [List.take_zero,List.nil_append] at hw
  exact hw
 rw [hw']
 rfl
end Go.Proofs.YtifploedaacedaaGreatDoorE
namespace Go.E
open Go
def Rg (st:SS) (v:Value) (c:List Value) (z n:Nat):Prop:=
 c.length=n*z∧((v=.slice none 0 0∧n=0)∨∃ i cap C,v=.slice (some ⟨i,0,none⟩) n cap∧n≤cap∧i<st.next∧C.take (n*z)=c∧((∃ z',(z'=z∨z'=0)∧st.mem.get i=some (.cells C z'))∨st.mem.get i=some (.table C)))
section
variable {S : List Nat} {st st' : SS} {v : Value} {c : List Value} {z n B : Nat}
theorem Rg.len (h:Rg st v c z n):lenV v=some (.int .i64 (n:Int)):=by
 obtain ⟨_,⟨rfl,rfl⟩ | ⟨i,cap,C,rfl,_⟩⟩:=h<;>rfl
theorem Rg.lenI (h:Rg st v c z n):(lenV v).bind (asI .i64)=some (n:Int):=by rw [h.len];rfl
theorem Rg.sl (h:Rg st v c z n):sliceLen v=some (n:Int):=by
 obtain ⟨_,⟨rfl,rfl⟩ | ⟨i,cap,C,rfl,_⟩⟩:=h<;>rfl
theorem Rg.cell (h:Rg st v c z n):v.cells.toList=[v]∧one v=true:=by
 obtain ⟨_,⟨rfl,rfl⟩ | ⟨i,cap,C,rfl,_⟩⟩:=h<;>exact ⟨rfl,rfl⟩
theorem Own.rg (h:Own B st v c z n):Rg st v c z n:=by
 obtain ⟨h1,h2⟩:=h
 refine ⟨h1,h2.imp id ?_⟩
 rintro ⟨i,e,h0,hm,hb,hi⟩
 exact ⟨i,n,c,e,zlr _,hi,by rw [← h1,List.take_length],.inl ⟨z,.inl rfl,hm⟩⟩
theorem Rg.keep (h:Rg st v c z n) (hn:st.next≤st'.next) (hk:∀ i l cap,v=.slice (some ⟨i,0,none⟩) l cap→i<st.next→st'.mem.get i=st.mem.get i):Rg st' v c z n:=by
 obtain ⟨h1,h2⟩:=h
 refine ⟨h1,h2.imp id ?_⟩
 rintro ⟨i,cap,C,e,hc,hi,ht,hm⟩
 rw [← hk i _ _ e hi] at hm
 exact ⟨i,cap,C,e,hc,zll hi hn,ht,hm⟩
theorem Rg.ext (h:Rg st v c z n) (he:Ext st st'):Rg st' v c z n:=h.keep he.next fun i l cap e hi=>he.keep i hi
theorem Rg.mod (h:Rg st v c z n) (m:Mod S st st') (hv:∀ i l cap,v=.slice (some ⟨i,0,none⟩) l cap→i∉S):Rg st' v c z n:=h.keep m.next fun i l cap e hi=>m.keep i hi (hv i l cap e)
theorem ztr {C c:List Value} {n k z:Nat} (h:C.take n=c) (hk:k+z≤c.length):cut C k z=some ((c.drop k).take z):=by
 subst h
 rw [List.length_take] at hk
 refine zor ?_ ?_
 ·rw [List.drop_take,List.take_take,Nat.min_eq_left (by omega)]
 ·simp;omega
theorem Rg.load (h:Rg st v c z n) {j:Int} (h0:0≤j) (h1:j<n) {row:List Value} (hr:(c.drop (j.toNat*z)).take z=row) (hz:row.length=z):
  ∃ p,zaw v j z=some p∧st.ldN p.1 p.2 z=some (.agg row.toArray)∧∀ k x,row[k]?=some x→st.ld p.1 (p.2+k)=some x:=by
 obtain ⟨hc,⟨rfl,rfl⟩ | ⟨i,cap,C,rfl,hcap,hi,ht,hm⟩⟩:=h
 ·omega
 have hb:j.toNat*z+z≤c.length:=by
  have h2:j.toNat+1≤n:=by omega
  have h3:=Nat.mul_le_mul_right z h2
  rw [Nat.add_mul,Nat.one_mul] at h3
  omega
 have e0:zaw (.slice (some ⟨i,0,none⟩) n cap) j z=some (i,0+j.toNat*z):=by
  unfold zaw
  simp only [zdt h0,zdt h1,Bool.and_self,zct]
 have hcut:=ztr (k:=j.toNat*z) (z:=z) ht hb
 rw [hr] at hcut
 have hget:∀ k x,row[k]?=some x→C[j.toNat*z+k]?=some x:=fun k x hx=>by
  rw [← hr,List.getElem?_take] at hx
  split at hx
  ·rw [List.getElem?_drop,← ht,List.getElem?_take] at hx
   split at hx
   ·exact hx
   ·cases hx
  ·cases hx
 refine ⟨_,e0,?_,fun k x hx=>?_⟩
 ·simp only [Nat.zero_add]
  rcases hm with ⟨z',_,hm⟩ | hm
  ·rw [SS.ldN_cells hm,hcut];rfl
  ·rw [SS.ldN_table hm,hcut];rfl
 ·simp only [Nat.zero_add]
  rcases hm with ⟨z',_,hm⟩ | hm
  ·rw [SS.ld_cells hm];exact hget k x hx
  ·rw [SS.ld_table hm];exact hget k x hx
theorem Rg.resl (h:Rg st v c z n) {m:Nat} (hm:m≤n):∃ v',st.resl v z 0 (m:Int)=some v'∧Rg st v' (c.take (m*z)) z m:=by
 obtain ⟨hc,⟨rfl,rfl⟩ | ⟨i,cap,C,rfl,hcap,hi,ht,hmm⟩⟩:=h
 ·have:m=0:=by omega
  subst this
  exact ⟨.slice none 0 0,rfl,by simp,.inl ⟨rfl,rfl⟩⟩
 have h1:decide ((m:Int)≤(cap:Int))=true:=zdt (by omega)
 have h2:decide ((0:Int)≤(m:Int))=true:=zdt (by omega)
 have h4:cond (Nat.beq cap 0) 0 (0+0*z)=0:=by cases Nat.beq cap 0<;>simp
 have hle:m*z≤n*z:=Nat.mul_le_mul_right z hm
 have hres:st.resl (.slice (some ⟨i,0,none⟩) n cap) z 0 (m:Int)=some (.slice (some ⟨i,0,none⟩) m cap):=by
  unfold SS.resl
  rcases hmm with ⟨z',hz',hmm⟩ | hmm
  ·have hq:(Nat.beq z' z||Nat.beq z' 0)=true:=by
    simp only [Bool.or_eq_true,zax,decide_eq_true_eq];exact hz'
   simp only [hmm,zob,hq,h1,h2,zct,Int.toNat_zero,h4,Int.toNat_natCast,Nat.sub_zero,Int.le_refl,decide_true,Bool.and_self]
  ·simp only [hmm,zob,h1,h2,zct,Int.toNat_zero,h4,Int.toNat_natCast,Nat.sub_zero,Int.le_refl,decide_true,Bool.and_self]
 exact ⟨_,hres,by rw [List.length_take];omega,.inr ⟨i,cap,C,rfl,by omega,hi,by rw [← ht,List.take_take,Nat.min_eq_left hle],hmm⟩⟩
theorem Tv.rg {α:Type} {f:α→List Value} {l:List α} {id:Nat} (hz:∀ x,(f x).length=z) (h:Tv id l.length v) (hm:st.mem.get id=some (.table (l.flatMap f))) (hi:id<st.next):Rg st v (rowsF f l) z l.length:=by
 have e:=zhh (f:=f) (z:=z) hz l
 refine ⟨e,h.imp (fun h=>h) fun ⟨cap,h1,h2,_⟩=>⟨_,cap,l.flatMap f,h1,h2,hi,?_,.inr hm⟩⟩
 have e':(l.flatMap f).length=l.length*z:=e
 rw [← e',List.take_length];rfl
end
theorem zuz {row:List Value} {k:Nat} (x:Value) (h:k<row.length):zcx row k [x]=some (row.set k x):=by
 rw [zbs (by simp;omega),List.set_eq_take_append_cons_drop]
 rw [if_pos h];rfl
theorem At.set1 {st:SS} {i k:Nat} {row:List Value} (h:At st i row) {x:Value} (hk:k<row.length) (h1:one x=true):∃ st',st.st i k [x]=some st'∧At st' i (row.set k x)∧Mod [i] st st'∧st'.next=st.next:=
 h.sto (by simp [h1]) (zuz x hk)
end Go.E
namespace Go.Proofs.YtifploedaacedaaGreatDoorE
set_option maxRecDepth 20000
open Go Go.E Go.Proofs
def zc9:LoopI:=⟨[(4,.any),(9,.any),(78,.int .i64),(79,.int .i64)],[(.exit 4,[]),(.ret,[(2,.bool)])]⟩
def zda:LoopI:=⟨[(3,.str),(4,.any),(6,.any),(23,.any),(24,.int .i64),(25,.int .i64),(34,.any),(35,.int .i64),(36,.int .i64)],[(.exit 2,[(3,.str),(4,.any),(6,.any),(23,.any),(24,.int .i64),(25,.int .i64)])]⟩
def zde:LoopI:=⟨[(3,.str),(4,.any),(23,.any),(24,.int .i64),(25,.int .i64)],[(.exit 0,[(3,.str),(4,.any)]),(.ret,[(2,.bool)])]⟩
def zdD (n:Nat):Option LoopI:=cond (Nat.beq n 8) (some zde) (cond (Nat.beq n 14) (some zda) (cond (Nat.beq n 25) (some zc9) (none)))
noncomputable def zbo (cf:zan) (lf:zac) (words':Value) (st:SS):Option (Value×SS):=
 (cf 15 [] st).bind fun a=>
 ((some a.1).bind asB).bind fun b=>
 cond (!b) (
 some (.bool false,a.2)) (
 ((lenV words').bind (asI .i64)).bind fun c=>
 cond (decide (60<c)) (
 some (.bool true,a.2)) (
 ((lenV words').bind (asI .i64)).bind fun d=>
 cond (decide (d=0)) (
 some (.bool true,a.2)) (
 ((lenV words').bind (asI .i64)).bind fun e=>
 (lf 8 [.string ⟨#[]⟩,.slice none 0 0,words',.int .i64 e,.int .i64 0] a.2).bind fun f=>
 cond (Nat.beq f.1 0) (
 ((f.2.1[0]?).bind asS).bind fun g=>
 (f.2.1[1]?).bind fun h=>
 (cf 16 [.string g] f.2.2).bind fun i=>
 (zaq i.1 0).bind fun j=>
 (zaq i.1 1).bind fun k=>
 ((zaq i.1 2).bind (asI .i64)).bind fun l=>
 let m:SS:=i.2.new (.cells [.slice none 0 0,.slice none 0 0] 0)
 let n:SS:=m.new (.cells [.int .i64 0,.int .i64 0] 0)
 (n.stV i.2.next 0 2 j).bind fun o=>
 (o.stV m.next 0 2 k).bind fun p=>
 cond (!(decide (l=0))) (
 some (.bool false,p)) (
 (p.ld i.2.next 0).bind fun q=>
 ((lenV q).bind (asI .i64)).bind fun r=>
 ((lenV h).bind (asI .i64)).bind fun s=>
 cond (!(decide (r=s))) (
 some (.bool false,p)) (
 ((lenV h).bind (asI .i64)).bind fun t=>
 (lf 25 [h,ptr i.2.next 0,.int .i64 t,.int .i64 0] p).bind fun u=>
 cond (Nat.beq u.1 0) (
 some (.bool true,u.2.2)) (
 ((u.2.1[0]?).bind asB).bind fun v=>
 some (.bool v,u.2.2))))) (
 ((f.2.1[0]?).bind asB).bind fun w=>
 some (.bool w,f.2.2)))))
noncomputable abbrev zao:zac:=lS Tryz.prog Lk0 Tryz.f5 zdD
theorem zf6:Lk0.func 5=some (5,Tryz.f5):=by kernel_rfl
theorem zbB [Sym] (words':Value) (st:SS) {r:Value×SS} (h:zbo cc zao words' st=some r):cc 5 [words'] st=some r:=
 zaf (li:=zdD) zai zar zf6 rfl (fun _=>rfl) (.trans (by kernel_rfl) h)
noncomputable def zbC (cf:zan) (lf:zac) (s':ByteArray) (want':Value) (t23':Value) (t24':Int) (t25':Int) (st:SS):Option (Nat×List Value×SS):=
 cond (decide (t25'<t24')) (
 (zaw t23' t25' 12).bind fun a=>
 (st.ldN a.1 a.2 12).bind fun b=>
 let c:SS:=st.new (.cells [.int .i64 0,.int .i64 0,.int .i64 0,.int .i64 0,.int .i64 0,.int .i64 0,.int .i64 0,.int .i64 0,.int .i64 0,.int .i64 0,.int .i64 0,.int .i64 0] 0)
 (c.stV st.next 0 12 b).bind fun d=>
 (d.st st.next 8 [.int .i64 7]).bind fun e=>
 (e.ldN st.next 0 12).bind fun f=>
 (cf 22 [f] e).bind fun g=>
 ((some g.1).bind asB).bind fun h=>
 cond (!h) (
 some (1,[.bool true],g.2)) (
 (g.2.ldN st.next 0 12).bind fun i=>
 (cf 23 [i] g.2).bind fun j=>
 ((lenV j.1).bind (asI .i64)).bind fun k=>
 (lf 14 [.string s',want',ptr st.next 0,t23',.int .i64 t24',.int .i64 t25',j.1,.int .i64 k,.int .i64 0] j.2).bind fun l=>
 ((l.2.1[0]?).bind asS).bind fun m=>
 (l.2.1[1]?).bind fun n=>
 (l.2.1[2]?).bind fun o=>
 (l.2.1[3]?).bind fun p=>
 ((l.2.1[4]?).bind (asI .i64)).bind fun q=>
 ((l.2.1[5]?).bind (asI .i64)).bind fun r=>
 (((zdU m ⟨#[10]⟩).bind fun s=>some (.string s)).bind asS).bind fun t=>
 (addr? o).bind fun u=>
 (l.2.2.ldN u.1 u.2 12).bind fun v=>
 (cf 18 [v] l.2.2).bind fun w=>
 ((some w.1).bind (asI .u64)).bind fun x=>
 let y:SS:=w.2.new (.cells ([.int .u64 x]) 1)
 (y.app 1 8 n (.slice (some ⟨w.2.next,0,none⟩) 1 1)).bind fun z=>
 let A:Int:=IntKind.wrap .i64 (r+1)
 lf 8 [.string t,z.1,p,.int .i64 q,.int .i64 A] z.2)) (
 some (0,[.string s',want'],st))
theorem zbU [Sym] (s':ByteArray) (want':Value) (t23':Value) (t24':Int) (t25':Int) (st:SS) {r:Nat×List Value×SS} (h:zbC cc zao s' want' t23' t24' t25' st=some r):zao 8 [.string s',want',t23',.int .i64 t24',.int .i64 t25'] st=some r:=
 zaA zai zar (key:=8) (I:=zde) rfl (by kernel_rfl) (by kernel_rfl) rfl rfl (.trans (by kernel_rfl) h)
noncomputable def zdg (cf:zan) (lf:zac) (s':ByteArray) (want':Value) (w':Value) (t23':Value) (t24':Int) (t25':Int) (t34':Value) (t35':Int) (t36':Int) (st:SS):Option (Nat×List Value×SS):=
 cond (decide (t36'<t35')) (
 (zaw t34' t36' 1).bind fun a=>
 ((st.ld a.1 a.2).bind (asI .i64)).bind fun b=>
 (cf 24 [] st).bind fun c=>
 (zaw c.1 t36' 1).bind fun d=>
 ((c.2.ld d.1 d.2).bind asS).bind fun e=>
 (((zdU s' e).bind fun s=>some (.string s)).bind asS).bind fun f=>
 (((zdU f ⟨#[61]⟩).bind fun s=>some (.string s)).bind asS).bind fun g=>
 (cf 25 [.int .i64 b] (c.2.ro c.2.next)).bind fun h=>
 ((some h.1).bind asS).bind fun i=>
 (((zdU g i).bind fun s=>some (.string s)).bind asS).bind fun j=>
 (((zdU j ⟨#[32]⟩).bind fun s=>some (.string s)).bind asS).bind fun k=>
 let l:Int:=IntKind.wrap .i64 (t36'+1)
 lf 14 [.string k,want',w',t23',.int .i64 t24',.int .i64 t25',t34',.int .i64 t35',.int .i64 l] (h.2.ro c.2.lim)) (
 some (0,[.string s',want',w',t23',.int .i64 t24',.int .i64 t25'],st))
theorem zcU [Sym] (s':ByteArray) (want':Value) (w':Value) (t23':Value) (t24':Int) (t25':Int) (t34':Value) (t35':Int) (t36':Int) (st:SS) {r:Nat×List Value×SS} (h:zdg cc zao s' want' w' t23' t24' t25' t34' t35' t36' st=some r):zao 14 [.string s',want',w',t23',.int .i64 t24',.int .i64 t25',t34',.int .i64 t35',.int .i64 t36'] st=some r:=
 zaA zai zar (key:=14) (I:=zda) rfl (by kernel_rfl) (by kernel_rfl) rfl rfl (.trans (by kernel_rfl) h)
noncomputable def zcd (cf:zan) (lf:zac) (want':Value) (r':Value) (t78':Int) (t79':Int) (st:SS):Option (Nat×List Value×SS):=
 cond (decide (t79'<t78')) (
 (addr? r').bind fun a=>
 (st.ld a.1 a.2).bind fun b=>
 (zaw b t79' 1).bind fun c=>
 ((st.ld c.1 c.2).bind (asI .u64)).bind fun d=>
 (zaw want' t79' 1).bind fun e=>
 ((st.ld e.1 e.2).bind (asI .u64)).bind fun f=>
 cond (!(decide (d=f))) (
 some (1,[.bool false],st)) (
 let g:Int:=IntKind.wrap .i64 (t79'+1)
 lf 25 [want',r',.int .i64 t78',.int .i64 g] st)) (
 some (0,[],st))
theorem zcV [Sym] (want':Value) (r':Value) (t78':Int) (t79':Int) (st:SS) {r:Nat×List Value×SS} (h:zcd cc zao want' r' t78' t79' st=some r):zao 25 [want',r',.int .i64 t78',.int .i64 t79'] st=some r:=
 zaA zai zar (key:=25) (I:=zc9) rfl (by kernel_rfl) (by kernel_rfl) rfl rfl (.trans (by kernel_rfl) h)
end Go.Proofs.YtifploedaacedaaGreatDoorE
namespace Go.Proofs.YtifploedaacedaaGreatDoorE
open Go Go.E Go.Proofs
theorem zml [Sym] (w:Wd) (hw:w.length=12) (j:Nat) (base:SS) (hj:base.mem.get j=some (.cells (wRow w) 1)) (hlt:j<base.next):∀ (m k:Nat) (s:SS),12=m+k→Ext base s→
  ∃ s',Ext s s'∧zbG 2 [.slice (some ⟨j,0,none⟩) 12 12,.int .i64 12,.int .i64 k] s=some (if ((List.range' k m).all fun k=>fitsT (w.getD k 0) (zav k))=true then (0,[],s') else (1,[.bool false],s'))
 | 0,k,s,hk,he=>by
   have h:¬ (k:Int)<12:=by omega
   refine ⟨s,Ext.refl _,zbS _ _ _ s ?_⟩
   simp only [zbH,zdf h,zcf]
   rfl
 | m+1,k,s,hk,he=>by
   have h:(k:Int)<12:=by omega
   have hk12:k<12:=by omega
   have e1:zaw (.slice (some ⟨j,0,none⟩) 12 12) (k:Int) 1=some (j,0+k*1):=plS hk12
   have l1:s.ld j (0+k*1)=some (.int .i64 (w.getD k 0)):=by
    rw [SS.ld_cells (he.get hlt hj),Nat.zero_add,Nat.mul_one,zeO,getD_some (by omega)];rfl
   have c3:=zpR s
   have x3:Ext s (s.new (.cells (wRow zeH) 1)):=(Ext.refl _).new _
   have e4:zaw (.slice (some ⟨s.next,0,none⟩) 12 12) (k:Int) 1=some (s.next,0+k*1):=plS hk12
   have l4:(s.new (.cells (wRow zeH) 1)).ld s.next (0+k*1)=some (.int .i64 ((2^zav k:Nat):Int)):=by
    rw [SS.ld_cells SS.new_get,Nat.zero_add,Nat.mul_one]
    exact zoN hk12
   have hf:=zs6 (w.getD k 0) (zav k)
   rw [List.range'_succ,List.all_cons,hf]
   by_cases h0:w.getD k 0<0
   ·have h0':¬ 0≤w.getD k 0:=by omega
    refine ⟨s,Ext.refl _,zbS _ _ _ s ?_⟩
    simp only [zbH,zdt h,zct,e1,zob,l1,zaa,zdt h0,zdf h0',Bool.false_and]
    rfl
   have h0':0≤w.getD k 0:=by omega
   by_cases h1:((2^zav k:Nat):Int)≤w.getD k 0
   ·have h1':¬ w.getD k 0<((2^zav k:Nat):Int):=by omega
    refine ⟨_,x3,zbS _ _ _ s ?_⟩
    simp only [zbH,zdt h,zct,e1,zob,l1,zaa,zdf h0,zcf,c3,e4,l4,zdt h1,zdf h1',Bool.and_false,Bool.false_and]
    rfl
   ·have h1':w.getD k 0<((2^zav k:Nat):Int):=by omega
    obtain ⟨s',x',ih⟩:=zml w hw j base hj hlt m (k+1) _ (by omega) (he.trans x3)
    have hwr:IntKind.wrap .i64 ((k:Int)+1)=((k+1:Nat):Int):=zba (by omega)
    refine ⟨s',x3.trans x',zbS _ _ _ s ?_⟩
    simp only [zbH,zdt h,zct,e1,zob,l1,zaa,zdf h0,zcf,c3,e4,l4,zdf h1,zdt h0',zdt h1',Bool.true_and,hwr]
    exact ih
theorem zts [Sym] (w:Wd) (hw:w.length=12) (st:SS):∃ n,st.next≤n∧cc 22 [wV w] st=some (.bool (zbv w),st.adv n):=by
 have hc:(wV w).cells.toList=wRow w:=zaF _
 have hm:((st.ro st.next).new (.cells (wRow w) 0)).mem.get st.next=some (.cells (wRow w) 0):=SS.new_get (st:=st.ro st.next)
 have l2:((st.ro st.next).new (.cells (wRow w) 0)).ldN st.next 0 12=some (wV w):=by rw [SS.ldN_cells hm,zdF (by rw [zaW,hw])];rfl
 have c3:=zk6 w hw ((st.ro st.next).new (.cells (wRow w) 0))
 have hj:((((st.ro st.next).new (.cells (wRow w) 0)).new (.cells (wRow w) 0)).new (.cells (wRow w) 1)).mem.get (((st.ro st.next).new (.cells (wRow w) 0)).next+1)=some (.cells (wRow w) 1):=SS.new_get (st:=((st.ro st.next).new (.cells (wRow w) 0)).new (.cells (wRow w) 0))
 obtain ⟨s',hs',hl⟩:=zml w hw _ _ hj (by simp) 12 0 _ (by omega) (Ext.refl _)
 have hg':zbv w=(List.range' 0 12).all fun k=>fitsT (w.getD k 0) (zav k):=by unfold zbv;rw [List.range_eq_range']
 rw [← hg'] at hl
 have hlen:(lenV (.slice (some ⟨((st.ro st.next).new (.cells (wRow w) 0)).next+1,0,none⟩) 12 12)).bind (asI .i64)=some 12:=rfl
 have hl':zbG 2 [.slice (some ⟨((st.ro st.next).new (.cells (wRow w) 0)).next+1,0,none⟩) 12 12,.int .i64 12,.int .i64 0] ((((st.ro st.next).new (.cells (wRow w) 0)).new (.cells (wRow w) 0)).new (.cells (wRow w) 1))=_:=hl
 have b0:Nat.beq 0 0=true:=rfl
 have b1:Nat.beq 1 0=false:=rfl
 refine ⟨s'.next,by have:=hs'.next;simp at this;omega,zid _ st ?_⟩
 simp only [zfY,hc,SS.ro_next]
 have l2':((st.ro st.next).new (.cells (wRow w) 0)).ldN st.next 0 12=some (wV w):=l2
 rw [l2',zob,c3,zob,hlen,zob,hl',zob]
 cases hgd:zbv w with
 | true=>simp only [if_true,b0,zct]
 | false=>simp only [Bool.false_eq_true,if_false,b1,zcf,zgz,zob,zal]
def zn1 (w:Wd) (k:Nat):List UInt8:=zcG (zdN (zaH.getD k [],(w.getD k 0).toNat))
def zfQ (w:Wd) (k:Nat):List UInt8:=((List.range 12).drop k).flatMap (zn1 w)
theorem zi1 (w:Wd):zfQ w 0=zec w:=by
 unfold zfQ zec zg4 zcG
 rw [List.drop_zero,List.flatMap_map,List.flatMap_assoc]
 rfl
theorem zmm (w:Wd) {k:Nat} (h:k<12):zfQ w k=zn1 w k++zfQ w (k+1):=by
 unfold zfQ
 rw [zmj h,List.flatMap_cons]
theorem zo1 (w:Wd) (k:Nat):zn1 w k=zaH.getD k []++[61]++zbl 10 zbg (w.getD k 0).toNat++[32]:=by
 show zaH.getD k []++([61]++(zbl 10 zbg (w.getD k 0).toNat++([32]++[])))=_
 simp
theorem zpV:∀ k,k<12→(zaH.getD k []).length≤5:=by decide+kernel
theorem zsh {w:Wd} (hg:zbv w=true) {k:Nat} (h:k<12):(zn1 w k).length≤17:=by
 obtain ⟨n,hn,hlt⟩:=zeQ hg h
 have h2:=Nat.pow_le_pow_right (n:=2) (by omega) (zmh k h).2.2.2
 have h1:=zpV k h
 rw [zo1,hn]
 simp only [Int.toNat_natCast]
 have:=zoE (k:=n) (by omega)
 simp only [List.length_append,List.length_cons,List.length_nil]
 omega
theorem zjU {w:Wd} (hg:zbv w=true):∀ (m k:Nat),12=m+k→(zfQ w k).length≤17*m
 | 0,k,h=>by
   have:k=12:=by omega
   subst this
   exact zlr _
 | m+1,k,h=>by
   rw [zmm w (by omega),List.length_append]
   have:=zsh hg (k:=k) (by omega)
   have:=zjU hg m (k+1) (by omega)
   omega
theorem znF [Sym] {w:Wd} (hw:zen w) (j:Nat) (want wp t23:Value) (t24 t25:Int) (base:SS) (hj:base.mem.get j=some (.cells (wRow w) 1)) (hlt:j<base.next):∀ (m k:Nat) (acc:List UInt8) (s:SS),12=m+k→acc.length≤100000+17*k→Ext base s→
  ∃ s',Ext s s'∧zao 14 [.string (mkS acc),want,wp,t23,.int .i64 t24,.int .i64 t25,.slice (some ⟨j,0,none⟩) 12 12,.int .i64 12,.int .i64 k] s=some (0,[.string (mkS (acc++zfQ w k)),want,wp,t23,.int .i64 t24,.int .i64 t25],s')
 | 0,k,acc,s,hk,ha,he=>by
   have:k=12:=by omega
   subst this
   refine ⟨s,Ext.refl _,zcU _ _ _ _ _ _ _ _ _ s ?_⟩
   have e:zfQ w 12=[]:=rfl
   rw [e,List.append_nil]
   rfl
 | m+1,k,acc,s,hk,ha,he=>by
   have h:(k:Int)<12:=by omega
   have hk12:k<12:=by omega
   obtain ⟨n,hn,hnlt⟩:=zeQ hw.2 hk12
   have h2:=Nat.pow_le_pow_right (n:=2) (by omega) (zmh k hk12).2.2.2
   have e1:zaw (.slice (some ⟨j,0,none⟩) 12 12) (k:Int) 1=some (j,0+k*1):=plS hk12
   have l1:s.ld j (0+k*1)=some (.int .i64 (n:Int)):=by
    rw [SS.ld_cells (he.get hlt hj),Nat.zero_add,Nat.mul_one,zeO,getD_some (by rw [hw.1];omega),hn];rfl
   have c3:=zqF s
   have x3:Ext s (s.new (.cells (strs zaH) 1)):=(Ext.refl _).new _
   have e4:zaw (.slice (some ⟨s.next,0,none⟩) 12 12) (k:Int) 1=some (s.next,0+k*1):=plS hk12
   have l4:(s.new (.cells (strs zaH) 1)).ld s.next (0+k*1)=some (.string (mkS (zaH.getD k []))):=by
    rw [SS.ld_cells SS.new_get,Nat.zero_add,Nat.mul_one]
    unfold strs
    have hf:zaH[k]?=some (zaH.getD k []):=by
     rw [List.getD_eq_getElem?_getD,zge (show k<zaH.length from hk12)];rfl
    rw [List.getElem?_map,hf];rfl
   obtain ⟨N,hN,c8⟩:=zsf n (by omega) ((s.new (.cells (strs zaH) 1)).ro (s.new (.cells (strs zaH) 1)).next)
   have x8:Ext s ((s.new (.cells (strs zaH) 1)).adv N):=x3.adv hN
   have hd:zmU n=zbl 10 zbg n:=ztq (by omega)
   have hdl:=zoE (k:=n) (by omega)
   have hfl:=zpV k hk12
   have y1:zdU (mkS acc) (mkS (zaH.getD k []))=some (mkS (acc++zaH.getD k [])):=zhW (by omega)
   have y2:zdU (mkS (acc++zaH.getD k [])) ⟨#[61]⟩=some (mkS (acc++zaH.getD k []++[61])):=zhW (b:=[61]) (by simp only [List.length_append,List.length_cons,List.length_nil];omega)
   have y3:zdU (mkS (acc++zaH.getD k []++[61])) (mkS (zbl 10 zbg n))=some (mkS (acc++zaH.getD k []++[61]++zbl 10 zbg n)):=zhW (by simp only [List.length_append,List.length_cons,List.length_nil];omega)
   have y4:zdU (mkS (acc++zaH.getD k []++[61]++zbl 10 zbg n)) ⟨#[32]⟩=some (mkS (acc++zaH.getD k []++[61]++zbl 10 zbg n++[32])):=zhW (b:=[32]) (by simp only [List.length_append,List.length_cons,List.length_nil];omega)
   have hwr:IntKind.wrap .i64 ((k:Int)+1)=((k+1:Nat):Int):=zba (by omega)
   obtain ⟨s',x',ih⟩:=znF hw j want wp t23 t24 t25 base hj hlt m (k+1) (acc++zaH.getD k []++[61]++zbl 10 zbg n++[32]) ((s.new (.cells (strs zaH) 1)).adv N) (by omega) (by simp only [List.length_append,List.length_cons,List.length_nil];omega) (he.trans x8)
   have he':acc++zfQ w k=acc++zaH.getD k []++[61]++zbl 10 zbg n++[32]++zfQ w (k+1):=by
    rw [zmm w hk12,zo1,hn]
    simp
   refine ⟨s',x8.trans x',zcU _ _ _ _ _ _ _ _ _ s ?_⟩
   rw [he']
   simp only [zdg,zdt h,zct,e1,zob,l1,zaa,c3,e4,l4,zab,y1,y2]
   rw [c8,zob]
   simp only [zab,zob,hd,y3,y4,hwr]
   exact ih
end Go.Proofs.YtifploedaacedaaGreatDoorE
namespace Go.E
open Go
section
variable {P : Program} {L : Lk} {c1 c2 : CallF}
theorem zmW (hc:zfU c1 c2) {ops:List Oper}:∀ (l:List Oper) (τ:Tm) (st:St) (r:Tm×St),opsE P L c1 ops l τ st=some r→opsE P L c2 ops l τ st=some r
 | [],τ,st,r,h=>h
 | o::l,τ,st,r,h=>by
   simp only [opsE] at h ⊢
   cases hw:wantedE ops τ o with
   | true=>
     rw [hw] at h
     simp only [zct,zbi] at h ⊢
     obtain ⟨x,hx,h⟩:=h
     exact ⟨x,zof hc hx,zmW hc l _ _ _ h⟩
   | false=>
     rw [hw] at h
     simp only [zcf] at h ⊢
     exact zmW hc l _ _ _ h
theorem zo2:∀ n,zlz (zaD P L n) (zaD P L (n+1))
 | 0,c,τ,st,r,h=>by cases h
 | n+1,c,τ,st,r,h=>by
   have ih:=zo2 n
   have hc:zfU (zaO L (zaD P L n)) (zaO L (zaD P L (n+1))):=zmv ih
   unfold zaD at h ⊢
   cases c<;>simp only at h ⊢<;>try exact h
   case region id ops d=>
    cases d<;>simp only [zmi] at h ⊢
    ·obtain ⟨x,hx,h⟩:=h
     exact ⟨x,zmW hc _ _ _ _ hx,h⟩
    ·obtain ⟨x,hx,h⟩:=h
     exact ⟨x,zmu hc _ _ _ _ _ hx,h⟩
   case seq a b=>
    simp only [zbi] at h ⊢
    obtain ⟨⟨e,τ1,st1⟩,hx,h⟩:=h
    refine ⟨(e,τ1,st1),ih _ _ _ _ hx,?_⟩
    cases e<;>simp only at h ⊢<;>first | exact ih _ _ _ _ h | exact h
   case cond x a b=>
    cases hv:rho L τ x with
    | none=>rw [hv] at h;cases h
    | some v=>
      rw [hv] at h
      try simp only [zob]
      cases v<;>(try simp only [zob] at h)<;>(try simp only)<;>try (cases h;done)
      rename_i bb
      cases bb<;>exact ih _ _ _ _ h
   case block id body=>
    simp only [zbi] at h ⊢
    obtain ⟨⟨e,τ1,st1⟩,hx,h⟩:=h
    refine ⟨(e,τ1,st1),ih _ _ _ _ hx,?_⟩
    cases e<;>exact h
   case loop body=>
    simp only [zbi] at h ⊢
    obtain ⟨⟨e,τ1,st1⟩,hx,h⟩:=h
    refine ⟨(e,τ1,st1),ih _ _ _ _ hx,?_⟩
    cases e<;>simp only at h ⊢<;>first | exact ih _ _ _ _ h | exact h
theorem ztt {n m:Nat} (h:n≤m):zlz (zaD P L n) (zaD P L m):=by
 obtain ⟨k,rfl⟩:=Nat.le.dest h
 clear h
 induction k with
 | zero=>exact fun _ _ _ _ h=>h
 | succ k ih=>exact fun c τ st r h=>zo2 _ _ _ _ _ (ih _ _ _ _ h)
def okP (nx:Nat) (r:Option (Value×St)):Bool:=match r with
 | some (.bool b,s)=>b&&Nat.ble nx s.next
 | _=>false
theorem zpu [Sym] (hL:L.Ok P) {f:FuncId} {args:List Value} {st:SS} {n:Nat} (hx:L.ext f args=none) (hcn:L.con f args st.next=none) (hp:L.pureF f=true)
  (h:okP st.next (runF P L n f args ⟨st.mem,st.next,st.next,[]⟩)=true):∃ N,st.next≤N∧cS P L f args st=some (.bool true,st.adv N):=by
 cases hr:runF P L n f args ⟨st.mem,st.next,st.next,[]⟩ with
 | none=>rw [hr] at h;cases h
 | some r=>
   have hrun:=ztB hL hr
   rw [hr] at h
   obtain ⟨v,s'⟩:=r
   have hv:v=.bool true∧st.next≤s'.next:=by
    unfold okP at h
    cases v<;>simp only at h<;>try (cases h;done)
    rename_i b
    rw [zae] at h
    exact ⟨by rw [h.1],Nat.le_of_ble_eq_true h.2⟩
   obtain ⟨rfl,hN⟩:=hv
   refine ⟨s'.next,hN,?_⟩
   rw [zhR]
   refine ⟨rfl,n,fun m hm base log=>⟨log,?_,.refl _ _ _⟩⟩
   unfold runE zaO at hrun
   unfold zaO
   have hcn':L.con f args (st.toE base log).next=none:=hcn
   rw [hx] at hrun ⊢
   simp only at hrun ⊢
   rw [hcn] at hrun
   rw [hcn']
   simp only [hp,zct,zbi] at hrun ⊢
   obtain ⟨a,ha,c,hc,h1⟩:=hrun
   refine ⟨a,ha,c,hc,?_⟩
   cases hb:Nat.ble args.length a.2.ntmps with
   | false=>rw [hb] at h1;cases h1
   | true=>
     rw [hb] at h1
     simp only [zct,zbi] at h1 ⊢
     obtain ⟨⟨e,τ,s1⟩,h2,h3⟩:=h1
     refine ⟨(e,τ,s1),ztt hm _ _ _ _ h2,?_⟩
     cases e<;>simp only [zbi] at h3 ⊢<;>first
      | (cases h3;done)
      | (obtain ⟨vs,h4,h5⟩:=h3
         refine ⟨vs,h4,?_⟩
         cases hq:(s1.log.isEmpty&&flat3 (za2 vs)) with
         | false=>rw [hq] at h5;cases h5
         | true=>
           rw [hq] at h5
           simp only [zct,zsj,zpj] at h5 ⊢
           obtain ⟨h6,h7⟩:=h5
           exact ⟨h6,by rw [← h7];rfl⟩)
end
end Go.E
namespace Go.Proofs.YtifploedaacedaaGreatDoorE
open Go Go.E Go.Proofs
noncomputable def zd3:List (Nat×AObj):=[(6,.table [.chan (some 6)]),(7,.table [.chan (some 7)]),(0,.table fieldsC),(2,.table asciiC)]
noncomputable def st0:SS:=⟨zdJ zd3,12,12⟩
theorem gd0:Gd st0:=⟨by simp [st0,zdJ,zd3,PT.get_upd],by simp [st0,zdJ,zd3,PT.get_upd],by simp [st0,zdJ,zd3,PT.get_upd],by simp [st0,zdJ,zd3,PT.get_upd],zlr _⟩
theorem globIn:∀ g,Lk0.glob g=true→g∈zd3.map (·.1):=fun g h=>by
 have h':(Nat.beq g 6||Nat.beq g 7||Nat.beq g 0||Nat.beq g 2)=true:=h
 simp only [Bool.or_eq_true,zax,decide_eq_true_eq] at h'
 rcases h' with ((rfl | rfl) | rfl) | rfl<;>simp [zd3]
theorem tabLt:∀ x∈zd3,x.1<12:=fun x hx=>by
 simp only [zd3,List.mem_cons,List.not_mem_nil,or_false] at hx
 rcases hx with rfl | rfl | rfl | rfl<;>decide
abbrev symE (a4:TypeId) (u4:Value) (a5:TypeId) (u5:Value):Sym where
 v i:=if i=6 then .iface a4 u4 else .iface a5 u5
 ok i:=by
  refine .inr (.inr ?_)
  split<;>exact ⟨_,_,rfl⟩
abbrev laidF:DataW Unit:=.agg ((zbx.map fun m=>(m.1,(m.2:Int))).map fun m=>.agg [.lit (.string m.1),.lit (.int .i64 m.2)])
abbrev laidS:DataW Unit:=.agg (Lib.asciiSpaceTab.map fun m=>.lit (.int .u8 m))
end Go.Proofs.YtifploedaacedaaGreatDoorE
namespace Go.Proofs.YtifploedaacedaaGreatDoorE
open Go Go.E Go.Proofs
theorem arg_row {H:Type} {enc:TypeId×Value→H} {P:Program} {W:World} {spare:Nat→Bool} {held:Bool} {α:Type} {f:α→List Value} {ok:α→Prop} {t e d:Nat} {ks:List CK} {v:Value} {dd:DataW H} {p:List MemPlace} (id g:Nat) (hg:∃ arr T fr,W.heap[g]?=some (.cells arr T fr)) (ht:P.underlying t=some (.slice e)) (hk:zgS P d e=some ks) (hc:P.cellsOf e=ks.length) (hz:0<ks.length)
  (hty:∀ r,Cks ks r→∃ s,r=f s∧ok s) (hfl:∀ s,(f s).all zaX=true) (hval:Value.okWide P W .any 0 t v) (h:DataW.Trod enc P W 0 spare held t v dd p):
  ∃ (l:List α) (av:Value) (pl:Pl),(∀ s∈l,ok s)∧Tv id l.length av∧(∃ obj,W.heap[pl.b]?=some obj∧∀ [Sym] (β:Emb),OR β pl obj (.table (l.flatMap f)))∧∀ [Sym] (β:Emb),β id=some pl→VR β av v:=by
 obtain ⟨l,h1,h2⟩:=zrp (f:=f) ht hk hc hz hty hval h
 have hf:∀ x∈l.flatMap f,zaX x=true:=fun x hx=>by
  obtain ⟨s,_,hs⟩:=List.mem_flatMap.1 hx
  exact List.all_eq_true.1 (hfl s) x hs
 rcases h2 with ⟨rfl,rfl⟩ | ⟨b,off,cap,rfl,h3,h4,arr,T,fr,hh,h5⟩
 ·obtain ⟨arr,T,fr,hh⟩:=hg
  exact ⟨[],.slice none 0 0,⟨g,0,0,0⟩,h1,.inl ⟨rfl,rfl⟩,⟨_,hh,fun β=>⟨rfl,arr,T,fr,rfl,fun j x hx=>by cases hx⟩⟩,fun β _=>.slice0⟩
 ·refine ⟨l,.slice (some ⟨id,0,none⟩) l.length cap,⟨b,off,0,0⟩,h1,.inr ⟨cap,rfl,h3,h4⟩,⟨_,hh,fun β=>⟨rfl,arr,T,fr,rfl,fun j x hx=>⟨x,h5 j x hx,zcp (hf x (zmg hx))⟩⟩⟩,fun β hb=>?_⟩
  exact .slice (p:=⟨b,off,0,0⟩) hb h3 (zlr _) (.inr rfl) (.inl rfl)
abbrev W12:={ w:List Int//w.length=12 }
def row12 (w:W12):List Value:=w.1.map (.int .i64)
theorem row12_len (w:W12):(row12 w).length=12:=by unfold row12;rw [List.length_map,w.2]
theorem flat_i (w:W12):(row12 w).all zaX=true:=by
 rw [List.all_eq_true]
 intro x hx
 obtain ⟨n,_,rfl⟩:=List.mem_map.1 hx
 rfl
theorem zpW:∀ (n:Nat) (r:List Value),Cks (List.replicate n (.i .i64)) r→∃ l:List Int,l.length=n∧r=l.map (.int .i64)
 | 0,[],_=>⟨[],rfl,rfl⟩
 | 0,_::_,h=>h.elim
 | n+1,[],h=>h.elim
 | n+1,x::r,h=>by
   obtain ⟨⟨m,h1,_⟩,h2⟩:=h
   obtain ⟨l,h3,h4⟩:=zpW n r h2
   exact ⟨m::l,by rw [List.length_cons,h3],by rw [h1,h4];rfl⟩
theorem words_ty (r:List Value) (h:Cks (List.replicate 12 (.i .i64)) r):∃ s,r=row12 s∧True:=by
 obtain ⟨l,h1,h2⟩:=zpW 12 r h
 exact ⟨⟨l,h1⟩,h2,trivial⟩
noncomputable def stP (C:List Value):SS:=⟨zdJ ((12,.table C)::zd3),12+1,12+1⟩
theorem zsi (C:List Value):stP C=(st0.new (.table C)).ro (12+1):=rfl
theorem gdP (C:List Value):Gd (stP C):=by
 rw [zsi]
 exact (gd0.ext ((Ext.refl st0).new _)).ro
theorem stP_F (C:List Value):(stP C).mem.get 12=some (.table C):=by
 rw [zsi]
 exact SS.new_get (st:=st0)
def plP (p:Pl):Nat→Pl:=fun i=>if i=12 then p else ⟨i,0,0,0⟩
theorem err_cells {W:World} {laid:List (String×DataW Unit)} (h:laidMet Tryz.prog laid W) (h4:∃ nm d,("strconv.ErrSyntax",DataW.iface nm d)∈laid):∃ arr T fr,W.heap[6]?=some (.cells arr T fr):=by
 obtain ⟨nm4,d4,m4⟩:=h4
 obtain ⟨a4,u4,c4⟩:=ziC h m4 (g:=6) (t:=208) (by kernel_rfl) (by kernel_rfl) Tryz.underlying208
 unfold World.cell? at c4
 simp only at c4
 split at c4
 ·rename_i arr T fr hh;exact ⟨_,_,_,hh⟩
 all_goals cases c4
theorem law_at1 {f:Nat} {fn:Func} (hf:Lk0.func f=some (f,fn)) {W:World} {laid:List (String×DataW Unit)} (h:laidMet Tryz.prog laid W) (h4:∃ nm d,("strconv.ErrSyntax",DataW.iface nm d)∈laid) (h5:∃ nm d,("strconv.ErrRange",DataW.iface nm d)∈laid)
  (hF:("camshaft/uword.fields",laidF)∈laid) (hS:("strings.asciiSpace",laidS)∈laid)
  {C:List Value} {p:Pl} (oC:∃ obj,W.heap[p.b]?=some obj∧∀ [Sym] (β:Emb),OR β p obj (.table C))
  {args args':List Value} (hargs:∀ [Sym] (β:Emb),β 12=some p→VRs β args args') (hlaw:∀ [Sym],∃ st',cc f args (stP C)=some (.bool true,st')):
  Calls Tryz.prog f args'.toArray W fun e W'=>e=.returned (.bool true)∧RowKit.Below W.heap.size W W':=by
 obtain ⟨nm4,d4,m4⟩:=h4
 obtain ⟨nm5,d5,m5⟩:=h5
 obtain ⟨a4,u4,c4⟩:=ziC h m4 (g:=6) (t:=208) (by kernel_rfl) (by kernel_rfl) Tryz.underlying208
 obtain ⟨a5,u5,c5⟩:=ziC h m5 (g:=7) (t:=208) (by kernel_rfl) (by kernel_rfl) Tryz.underlying208
 letI:Sym:=symE a4 u4 a5 u5
 have hE:ErrSym:=⟨⟨a4,u4,rfl⟩,⟨a5,u5,rfl⟩⟩
 obtain ⟨oF,f1,f2⟩:=zp9 h hF (g:=0) (kk:=.i64) (by kernel_rfl) (by kernel_rfl) Tryz.underlying128 Tryz.underlying127 (by kernel_rfl) rfl rfl rfl Tryz.underlying9 Tryz.underlying3 rfl rfl (by kernel_rfl) (by kernel_rfl) _ (by simp [zbx]) rfl
 obtain ⟨oS,s1,s2⟩:=zq5 h hS (g:=2) (kk:=.u8) (by kernel_rfl) (by kernel_rfl) Tryz.underlying233 Tryz.underlying5 (by kernel_rfl) _ rfl
 obtain ⟨st',hl⟩:=hlaw
 have hX:(plP p) 12=p:=by unfold plP;rw [if_pos rfl]
 have hO:∀ x∈zd3,(plP p) x.1=⟨x.1,0,0,0⟩:=fun x hx=>by
  have:=tabLt x hx
  unfold plP;rw [if_neg (by omega)]
 have b1:embB ((12,.table C)::zd3) (plP p) 12=some p:=by rw [zpF (by simp),hX]
 have hT:∀ x∈zd3,∃ obj,W.heap[((plP p) x.1).b]?=some obj∧OR (embB ((12,.table C)::zd3) (plP p)) ((plP p) x.1) obj x.2:=fun x hx=>by
  rw [hO x hx]
  simp only [zd3,List.mem_cons,List.not_mem_nil,or_false] at hx
  rcases hx with rfl | rfl | rfl | rfl
  ·exact zro (i:=6) c4
  ·exact zro (i:=7) c5
  ·exact ⟨oF,f1,f2 _⟩
  ·exact ⟨oS,s1,s2 _⟩
 refine ztQ zai (ztS hE) hf (l:=(12,.table C)::zd3) (nx:=12+1) (pl:=plP p) hl rfl (hargs _ b1) (fun x hx=>?_) (fun x hx=>?_) (fun g hg=>?_) (fun x hx=>?_)
 ·rcases List.mem_cons.1 hx with rfl | hx
  ·simp only [hX];exact ⟨oC.choose,oC.choose_spec.1,oC.choose_spec.2 _⟩
  ·exact hT x hx
 ·rcases List.mem_cons.1 hx with rfl | hx
  ·exact ⟨_,rfl⟩
  ·simp only [zd3,List.mem_cons,List.not_mem_nil,or_false] at hx
   rcases hx with rfl | rfl | rfl | rfl<;>exact ⟨_,rfl⟩
 ·have hm:=globIn g hg
  obtain ⟨x,hx,rfl⟩:=List.mem_map.1 hm
  refine ⟨by rw [List.map_cons];exact List.mem_cons_of_mem _ hm,by rw [hO x hx],by rw [hO x hx]⟩
 ·rcases List.mem_cons.1 hx with rfl | hx
  ·show 12<12+1;omega
  ·have:=tabLt x hx;omega
end Go.Proofs.YtifploedaacedaaGreatDoorE
namespace Go.Proofs.YtifploedaacedaaGreatDoorE
set_option maxRecDepth 1000000
open Go Go.E Go.Proofs
theorem zsk (ob:AObj):okP (st0.new ob).next (runF Tryz.prog Lk0 2000 15 [] ⟨(st0.new ob).mem,(st0.new ob).next,(st0.new ob).next,[]⟩)=true:=by kernel_rfl
end Go.Proofs.YtifploedaacedaaGreatDoorE
namespace Go.Proofs.YtifploedaacedaaGreatDoorE
open Go Go.E Go.Proofs
def zce (w:W12):Wd:=w.1.set 8 7
theorem zfJ (w:W12):(zce w).length=12:=by unfold zce;rw [List.length_set,w.2]
def wsT (ws:List W12) (j:Nat):List Wd:=(ws.take j).map zce
theorem zld {ws:List W12} {j:Nat} {x:W12} (h:ws[j]?=some x):wsT ws (j+1)=wsT ws j++[zce x]:=by
 unfold wsT
 rw [List.take_add_one,h,List.map_append];rfl
theorem zpX {ws:List W12} {j:Nat} (h:j≤ws.length):(wsT ws j).length=j:=by
 unfold wsT
 rw [List.length_map,List.length_take];omega
theorem ztu (a:List Wd) (w:Wd):mwT (a++[w])=mwT a++zec w++[10]:=by
 unfold mwT
 rw [List.flatMap_append]
 simp
theorem zmX:∀ ws:List Wd,(∀ w∈ws,zen w)→(mwT ws).length≤205*ws.length
 | [],_=>zlr _
 | w::ws,h=>by
   have e:mwT (w::ws)=(zec w++[10])++mwT ws:=rfl
   have h1:=zjU (h w (by simp)).2 12 0 (by omega)
   rw [zi1] at h1
   have:=zmX ws fun v hv=>h v (by simp [hv])
   rw [e]
   simp only [List.length_append,List.length_cons,List.length_nil]
   omega
theorem zo3 [Sym] (ws:List W12) (hn60:ws.length≤60) (wv:Value) (st0:SS) (hll:st0.lim≤st0.next) (hW:Rg st0 wv (rowsF row12 ws) 12 ws.length):∀ (k j:Nat) (want:Value) (s:SS),ws.length=k+j→Ext st0 s→Own st0.next s want (rowsF zb9 (wsT ws j)) 1 j→(∀ w∈wsT ws j,zen w)→
  ∃ s',Ext st0 s'∧(zao 8 [.string (mkS (mwT (wsT ws j))),want,wv,.int .i64 ws.length,.int .i64 j] s=some (1,[.bool true],s')∨
   ∃ want',(∀ w∈wsT ws ws.length,zen w)∧Own st0.next s' want' (rowsF zb9 (wsT ws ws.length)) 1 ws.length∧zao 8 [.string (mkS (mwT (wsT ws j))),want,wv,.int .i64 ws.length,.int .i64 j] s=some (0,[.string (mkS (mwT (wsT ws ws.length))),want'],s'))
 | 0,j,want,s,hk,he,ho,hok=>by
   have hlt:¬ (j:Int)<(ws.length:Int):=by omega
   have hj:ws.length=j:=by omega
   refine ⟨s,he,.inr ⟨want,by rw [hj];exact hok,by rw [hj];exact ho,zbU _ _ _ _ _ s ?_⟩⟩
   simp only [zbC,zdf hlt,zcf]
   rw [hj]
 | k+1,j,want,s,hk,he,ho,hok=>by
   have hlt:(j:Int)<(ws.length:Int):=by omega
   obtain ⟨x,hx⟩:∃ x,ws[j]?=some x:=⟨_,zge (by omega)⟩
   have hls:=he.ll hll
   obtain ⟨p1,e1,l1,_⟩:=(hW.ext he).load (j:=(j:Int)) (by omega) hlt (zbt row12_len ws j x hx) (row12_len x)
   obtain ⟨s4,e4,a4,x4,n4⟩:=zbk (st:=s) hls (r:=Z12) (zaF (row12 x)) (n:=12) (row12_len x) (zfE x.1) rfl
   obtain ⟨s5,e5,a5,m5,n5⟩:=a4.set1 (k:=8) (x:=.int .i64 7) (by rw [row12_len];omega) rfl
   have hrow:(row12 x).set 8 (.int .i64 7)=wRow (zce x):=(zoM x.1 8 7).symm
   rw [hrow] at a5
   have x5:Ext s s5:=zay x4 m5 (zlr _)
   have he5:=he.trans x5
   have l6:s5.ldN s.next 0 12=some (wV (zce x)):=a5.ldN (by rw [zaW,zfJ])
   obtain ⟨n7,hn7,c7⟩:=zts (zce x) (zfJ x) s5
   have x7:Ext s5 (s5.adv n7):=(Ext.refl _).adv hn7
   cases hgd:zbv (zce x) with
   | false=>
     rw [hgd] at c7
     refine ⟨s5.adv n7,he5.trans x7,.inl (zbU _ _ _ _ _ s ?_)⟩
     simp only [zbC,zdt hlt,zct,e1,zob,l1]
     rw [e4,zob,e5,zob,l6,zob,c7,zob]
     rfl
   | true=>
   rw [hgd] at c7
   have hwok:zen (zce x):=⟨zfJ x,hgd⟩
   have a7:=a5.ext x7
   have l9:(s5.adv n7).ldN s.next 0 12=some (wV (zce x)):=a7.ldN (by rw [zaW,zfJ])
   have c10:=zk6 (zce x) (zfJ x) (s5.adv n7)
   obtain ⟨s10,hs10⟩:∃ s10,s10=((s5.adv n7).new (.cells (wRow (zce x)) 0)).new (.cells (wRow (zce x)) 1):=⟨_,rfl⟩
   have x10:Ext (s5.adv n7) s10:=by rw [hs10];exact ((Ext.refl _).new _).new _
   have hj10:s10.mem.get ((s5.adv n7).next+1)=some (.cells (wRow (zce x)) 1):=by
    rw [hs10];exact SS.new_get (st:=(s5.adv n7).new (.cells (wRow (zce x)) 0))
   have hlt10:(s5.adv n7).next+1<s10.next:=by rw [hs10];simp
   rw [← hs10] at c10
   have hlen:=zmX _ hok
   rw [zpX (by omega)] at hlen
   obtain ⟨s12,x12,c12⟩:=znF hwok ((s5.adv n7).next+1) want (ptr s.next 0) wv ws.length j s10 hj10 hlt10 12 0 (mwT (wsT ws j)) s10 (by omega) (by omega) (.refl _)
   rw [zi1] at c12
   have hline:=zjU hgd 12 0 (by omega)
   rw [zi1] at hline
   have y19:zdU (mkS (mwT (wsT ws j)++zec (zce x))) ⟨#[10]⟩=some (mkS (mwT (wsT ws j)++zec (zce x)++[10])):=zhW (b:=[10]) (by simp only [List.length_append,List.length_cons,List.length_nil];omega)
   have a12:=(a7.ext x10).ext x12
   have l21:s12.ldN s.next 0 12=some (wV (zce x)):=a12.ldN (by rw [zaW,zfJ])
   obtain ⟨n22,hn22,c22⟩:=ztp (zce x) hwok s12
   have x22:Ext s12 (s12.adv n22):=(Ext.refl _).adv hn22
   have he22:Ext st0 (s12.adv n22):=(((he5.trans x7).trans x10).trans x12).trans x22
   have he24:Ext st0 ((s12.adv n22).new (.cells [.int .u64 (zdv (zce x))] 1)):=he22.new _
   have hs24:Ext s ((s12.adv n22).new (.cells [.int .u64 (zdv (zce x))] 1)):=((((x5.trans x7).trans x10).trans x12).trans x22).new _
   obtain ⟨v25,s25,f1,f2,f3,f4,f5,f6⟩:=(ho.ext hs24).app (Rd.new1 (st:=s12.adv n22) (row:=[.int .u64 (zdv (zce x))]) (z:=1) rfl) he24.next (by rw [he24.lim];exact hll) (by omega) rfl (bt:=8) (by omega) (by omega)
   have hrows:rowsF zb9 (wsT ws j)++[.int .u64 (zdv (zce x))]=rowsF zb9 (wsT ws (j+1)):=by
    rw [zld hx,zbQ];rfl
   rw [hrows] at f2
   have he25:Ext st0 s25:=f5 st0 (zlr _) he24
   have hok':∀ w∈wsT ws (j+1),zen w:=fun w hw=>by
    rw [zld hx] at hw
    rcases List.mem_append.1 hw with hw | hw
    ·exact hok w hw
    ·have:w=zce x:=by simpa using hw
     rw [this];exact hwok
   obtain ⟨s',x',ih⟩:=zo3 ws hn60 wv st0 hll hW k (j+1) v25 s25 (by omega) he25 f2 hok'
   rw [zld hx,ztu] at ih
   have hw1:IntKind.wrap .i64 ((j:Int)+1)=((j+1:Nat):Int):=zba (by omega)
   have hl11:(lenV (.slice (some ⟨(s5.adv n7).next+1,0,none⟩) 12 12)).bind (asI .i64)=some 12:=rfl
   have c12':zao 14 [.string (mkS (mwT (wsT ws j))),want,ptr s.next 0,wv,.int .i64 ws.length,.int .i64 j,.slice (some ⟨(s5.adv n7).next+1,0,none⟩) 12 12,.int .i64 12,.int .i64 0] s10=_:=c12
   have step:∀ r,zao 8 [.string (mkS (mwT (wsT ws j)++zec (zce x)++[10])),v25,wv,.int .i64 ws.length,.int .i64 ((j+1:Nat):Int)] s25=some r→zao 8 [.string (mkS (mwT (wsT ws j))),want,wv,.int .i64 ws.length,.int .i64 j] s=some r:=fun r hr=>by
    refine zbU _ _ _ _ _ s ?_
    simp only [zbC,zdt hlt,zct,e1,zob,l1]
    rw [e4,zob,e5,zob,l6,zob,c7,zob]
    simp only [zob,zal,znt,zcf]
    rw [l9,zob,c10,zob,hl11,zob,c12',zob]
    simp only [zgz,zgs,zob,zab,zaa,y19,zad]
    rw [l21,zob,c22,zob]
    simp only [zob,zaa]
    rw [f1,zob]
    simp only [hw1]
    exact hr
   refine ⟨s',x',?_⟩
   rcases ih with ih | ⟨want',h1,h2,h3⟩
   ·exact .inl (step _ ih)
   ·exact .inr ⟨want',h1,h2,step _ h3⟩
theorem znG [Sym] (ws:List Wd) (hn:ws.length≤1000) (want wv ev:Value) (rb:Nat) (base:SS) (hA:Rd base want (rowsF zb9 ws) 1 ws.length) (hB:Rd base wv (rowsF zb9 ws) 1 ws.length) (hr:At base rb [wv,ev]):∀ (k j:Nat),ws.length=k+j→
  zao 25 [want,ptr rb 0,.int .i64 ws.length,.int .i64 j] base=some (0,[],base)
 | 0,j,hk=>by
   have hlt:¬ (j:Int)<(ws.length:Int):=by omega
   refine zcV _ _ _ _ base ?_
   simp only [zcd,zdf hlt,zcf]
 | k+1,j,hk=>by
   have hlt:(j:Int)<(ws.length:Int):=by omega
   obtain ⟨w,hw⟩:∃ x,ws[j]?=some x:=⟨_,zge (by omega)⟩
   obtain ⟨p1,e1,_,g1⟩:=hA.load (j:=(j:Int)) (by omega) hlt (zbt (f:=zb9) (z:=1) (fun _=>rfl) ws j w hw) rfl
   obtain ⟨p2,e2,_,g2⟩:=hB.load (j:=(j:Int)) (by omega) hlt (zbt (f:=zb9) (z:=1) (fun _=>rfl) ws j w hw) rfl
   have l1:base.ld p1.1 p1.2=some (.int .u64 (zdv w)):=g1 0 (by omega)
   have l2:base.ld p2.1 p2.2=some (.int .u64 (zdv w)):=g2 0 (by omega)
   have l0:base.ld rb 0=some wv:=hr.ld
   have hw1:IntKind.wrap .i64 ((j:Int)+1)=((j+1:Nat):Int):=zba (by omega)
   have ih:=znG ws hn want wv ev rb base hA hB hr k (j+1) (by omega)
   refine zcV _ _ _ _ base ?_
   simp only [zcd,zdt hlt,zct,zad,zob,l0,e2,l2,zaa,e1,l1,decide_true,znt,zcf,hw1]
   exact ih
theorem ztv [Sym] (C:List Value):∃ N,(stP C).next≤N∧cc 15 [] (stP C)=some (.bool true,(stP C).adv N):=
 zpu (st:=stP C) (f:=15) (args:=[]) (n:=2000) zai (by kernel_rfl) (by kernel_rfl) (by kernel_rfl) (zsk (.table C))
theorem uasmMakes_ok [Sym] {C:List Value} (hg:Gd (stP C)) (hll:(stP C).lim≤(stP C).next) (ws:List W12) (wv:Value) (hW:Rg (stP C) wv (rowsF row12 ws) 12 ws.length):∃ st',cc 5 [wv] (stP C)=some (.bool true,st'):=by
 obtain ⟨N,hN,hal⟩:=ztv C
 obtain ⟨st,hst⟩:∃ st,st=stP C:=⟨_,rfl⟩
 rw [← hst] at hg hll hW hN hal ⊢
 have hlw:=hW.lenI
 have x1:Ext st (st.adv N):=(Ext.refl _).adv hN
 by_cases h60:(60:Int)<(ws.length:Int)
 ·refine ⟨st.adv N,zbB wv st ?_⟩
  simp only [zbo,hal,zob,zal,znt,zcf,hlw,zdt h60,zct]
 by_cases h0:(ws.length:Int)=0
 ·refine ⟨st.adv N,zbB wv st ?_⟩
  simp only [zbo,hal,zob,zal,znt,zcf,hlw,zdf h60,zdt h0,zct]
 obtain ⟨s6,x6,hloop⟩:=zo3 ws (by omega) wv (st.adv N) (x1.ll hll) (hW.ext x1) ws.length 0 (.slice none 0 0) (st.adv N) (by omega) (.refl _) (Own.nil _ _ _) (fun w hw=>by cases hw)
 have b0:Nat.beq 0 0=true:=rfl
 have b1:Nat.beq 1 0=false:=rfl
 rcases hloop with hloop | ⟨want,hok,hown,hloop⟩
 ·have hloop':zao 8 [.string ⟨#[]⟩,.slice none 0 0,wv,.int .i64 ws.length,.int .i64 0] (st.adv N)=_:=hloop
  refine ⟨s6,zbB wv st ?_⟩
  simp only [zbo,hal,zob,zal,znt,zcf,hlw,zdf h60,zdf h0]
  rw [hloop',zob]
  simp only [b1,zcf,zgz,zob,zal]
 have hloop':zao 8 [.string ⟨#[]⟩,.slice none 0 0,wv,.int .i64 ws.length,.int .i64 0] (st.adv N)=_:=hloop
 have e6:Ext st s6:=x1.trans x6
 have hwl:=zpX (ws:=ws) (zlr _)
 obtain ⟨W,hWd⟩:∃ W,W=wsT ws ws.length:=⟨_,rfl⟩
 have h7:∀ w∈W,w.getD 8 0=7:=fun w hw=>by
  rw [hWd] at hw
  obtain ⟨y,_,rfl⟩:=List.mem_map.1 hw
  unfold zce
  rw [List.getD_eq_getElem?_getD,List.getElem?_set_self (by rw [y.2];omega)];rfl
 rw [← hWd] at hwl hok hown hloop'
 rw [← hwl] at hown
 have hlen:=zmX _ hok
 have ha:=asm_ok (hg.ext e6) (e6.ll hll) (mkS (mwT W)) (by rw [zsF];omega)
 rw [zbO,mw_rom hok h7 (by omega)] at ha
 obtain ⟨s9,rv,ev,c9,x9,o1,o2⟩:=ha
 have e9:=e6.trans x9
 have hl9:=e9.ll hll
 have t0:∀ (a b c:Value),zaq (.tuple #[a,b,c]) 0=some a:=fun _ _ _=>rfl
 have t1:∀ (a b c:Value),zaq (.tuple #[a,b,c]) 1=some b:=fun _ _ _=>rfl
 have t2:∀ (a b c:Value),zaq (.tuple #[a,b,c]) 2=some c:=fun _ _ _=>rfl
 have y1:Ext s9 (s9.new (.cells NN 0)):=(Ext.refl _).new _
 have y2:Ext (s9.new (.cells NN 0)) ((s9.new (.cells NN 0)).new (.cells Z2 0)):=(Ext.refl _).new _
 have q1:At ((s9.new (.cells NN 0)).new (.cells Z2 0)) s9.next NN:=(At.new hl9 NN).ext y2
 have q2:At ((s9.new (.cells NN 0)).new (.cells Z2 0)) (s9.next+1) Z2:=At.new (st:=s9.new (.cells NN 0)) (y1.ll hl9) Z2
 obtain ⟨s15,e15,a15,m15,n15⟩:=q1.stV (k:=0) (n:=2) (v:=zlb rv ev) (vs:=[rv,ev]) rfl rfl (by simp [(Own.cell o1).2,(Own.cell o2).2]) (row':=[rv,ev]) rfl
 obtain ⟨s16,e16,a16,m16,n16⟩:=(q2.mod m15 (by simp)).stV (k:=0) (n:=2) (v:=zbP (0,0)) (vs:=Z2) rfl rfl rfl (row':=Z2) rfl
 have x16:Ext s9 s16:=zay (zay (y1.trans y2) m15 (zlr _)) m16 (by omega)
 have a16':=a15.mod m16 (by simp)
 have l17:s16.ld s9.next 0=some rv:=a16'.ld
 have hlr:(lenV rv).bind (asI .i64)=some (W.length:Int):=by rw [o1.len];rfl
 have hlv:(lenV want).bind (asI .i64)=some (W.length:Int):=by rw [hown.len];rfl
 have c25:=znG W (by omega) want rv ev s9.next s16 ((hown.rd.ext x9).ext x16) (o1.rd.ext x16) a16' W.length 0 rfl
 have c25':zao 25 [want,ptr s9.next 0,.int .i64 W.length,.int .i64 0] s16=_:=c25
 refine ⟨s16,zbB wv st ?_⟩
 simp only [zbo,hal,zob,zal,znt,zcf,hlw,zdf h60,zdf h0]
 rw [hloop',zob]
 simp only [b0,zct,zgz,zgs,zob,zab]
 rw [c9,zob]
 simp only [t0,t1,t2,zob,zaa]
 rw [e15,zob]
 simp only [SS.new_next]
 rw [e16,zob]
 simp only [decide_true,znt,zcf,l17,zob,hlr,hlv]
 rw [c25',zob]
 rfl
end Go.Proofs.YtifploedaacedaaGreatDoorE
