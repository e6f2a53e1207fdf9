/- Parts of the proof of UseqShips, packed by a program: an evaluator over the given code, functions as plain texts, their laws. -/
import Derived.ChangeSame
import Derived.Test.YtcplfckncandkaaGreatDoorPSE
set_option linter.unusedVariables false
set_option linter.unusedSimpArgs false
namespace Go.Proofs.YtcplfckncandkaaGreatDoorE
open Go Go.E Go.Proofs
theorem Stk.blk {B:Nat} {s:SS} {k:Value} {ca:List Int} (h:Stk B s k ca):∀ i o l c,k=.slice (some ⟨i,o,none⟩) l c→B≤i∧i<s.next:=fun i o l c e=>by
 obtain ⟨rfl,_⟩ | ⟨j,o',cap,C,rfl,_,_,_,_,h5,h6⟩:=h
 ·cases e
 ·cases e;exact ⟨h5,h6⟩
theorem Stk.up {A B:Nat} {s:SS} {k:Value} {ca:List Int} (h:Stk A s k ca) (hb:∀ i o l c,k=.slice (some ⟨i,o,none⟩) l c→B≤i):Stk B s k ca:=by
 refine h.imp (fun h=>h) ?_
 rintro ⟨j,o,cap,C,e,h1,h2,h3,h4,h5,h6⟩
 exact ⟨j,o,cap,C,e,h1,h2,h3,h4,hb j o _ _ e,h6⟩
structure Two (base:SS) (B b b2:Nat) (ws:List Nat) (E:List Int) (pc:Int) (ca:List Int) (s:SS):Prop where
 ex:∃ k k2,SqI b2 s b ws E pc k∧MqI B s b2 ws E pc k2∧Stk B s k ca∧Stk B s k2 ca∧∀ i o l c,k=.slice (some ⟨i,o,none⟩) l c→∀ o' l' c',k2≠.slice (some ⟨i,o',none⟩) l' c'
 hE:E.length=5
 hB:B≤s.next
 hl:s.lim≤b
 ext:Ext base s
 bb:base.next≤b
 hN:ws.length≤2048
section
variable {base s : SS} {B b b2 : Nat} {ws : List Nat} {E : List Int} {pc : Int} {ca : List Int}
theorem Two.lt (h:Two base B b b2 ws E pc ca s):b<b2∧b2<B∧b2<s.next:=by
 obtain ⟨k,k2,h1,h2,_⟩:=h.ex
 exact ⟨h1.lt.2.1,h2.lt.2.1,h2.lt.1⟩
theorem Two.extend (h:Two base B b b2 ws E pc ca s) {s':SS} (x:Ext s s'):Two base B b b2 ws E pc ca s':=by
 obtain ⟨k,k2,h1,h2,h3,h4,h5⟩:=h.ex
 exact ⟨⟨k,k2,h1.ext x,h2.ext x,h3.ext x,h4.ext x,h5⟩,h.hE,zlt h.hB x.next,by rw [x.lim];exact h.hl,h.ext.trans x,h.bb,h.hN⟩
theorem Two.step [Sym] (h:Two base B b b2 ws E pc ca s) (hp:InN ws.length pc) (hc:ca.length≤8) {sf:SS} (hx:Ext s sf) (is:Bool) (tb op:Int):
  ∃ s1,cc 12 [ptr b 0,.agg #[.bool is,.int .i64 tb,.int .i64 op]] sf=some (.bool (zbN ws E pc ca is tb op).2.2,s1)∧(∀ i,s.next≤i→i<sf.next→s1.mem.get i=sf.mem.get i)∧sf.next≤s1.next∧s1.lim=sf.lim∧
   ∀ s1':SS,s1'.next=s1.next→s1'.lim=s1.lim→(∀ i,i<s.next∨sf.next≤i→s1'.mem.get i=s1.mem.get i)→
    ∃ s2,cc 20 [ptr b2 0,.bool is,.int .i64 tb,.int .i64 op] s1'=some (.bool (zbN ws E pc ca is tb op).2.2,s2)∧Two base B b b2 ws E (zbN ws E pc ca is tb op).1 (zbN ws E pc ca is tb op).2.1 s2:=by
 obtain ⟨k,k2,h1,h2,h3,h4,h5⟩:=h.ex
 obtain ⟨lb,lb2,lbn⟩:=h.lt
 have hfn:=hx.next
 have kb:=h3.blk
 have kb2:=h4.blk
 have hB:=h.hB
 have hl:=h.hl
 have hbb:=h.bb
 obtain ⟨s1,k',c1,q1,q2,fr,nw⟩:=zqP (h1.ext hx) h.hE ((h3.ext hx).up fun i o l c e=>by have:=(kb i o l c e).1;omega) (by omega) (by rw [hx.lim];omega) hc hp.1 h.hN hp.2 is tb op
 have fn:=fr.next
 have k'lt:=q2.blk
 refine ⟨s1,c1,fun i hi hi2=>fr.keep i hi2 (by omega) (fun o l c e=>by have:=(kb i o l c e).2;omega),fn,fr.lim,fun s1' en el em=>?_⟩
 have d1:SqI b2 s1' b ws E (zbN ws E pc ca is tb op).1 k':=q1.keep (by omega) el fun i hi hi2=>em i (.inl (by omega))
 have d2:Stk b2 s1' k' (zbN ws E pc ca is tb op).2.1:=q2.keep (by omega) fun i o l c e hb hi=>by
  rcases nw i o l c e with h6 | ⟨o',l',c',h6⟩
  ·exact em i (.inr h6)
  ·exact em i (.inl (kb i _ _ _ h6).2)
 have d3:MqI B s1' b2 ws E pc k2:=h2.keepHi (by omega) (by rw [el,fr.lim,hx.lim]) fun i hi hi2 hi3=>
  (em i (.inl hi3)).trans ((fr.keep i (by omega) (by omega) (fun o l c e=>by have:=(kb i o l c e).1;omega)).trans (hx.keep i hi3))
 have d4:Stk B s1' k2 ca:=h4.keep (by omega) fun i o l c e hb hi=>
  (em i (.inl hi)).trans ((fr.keep i (by omega) (by omega) (fun o' l' c' e'=>h5 i o' l' c' e' _ _ _ e)).trans (hx.keep i hi))
 obtain ⟨s2,k2',c2,r1,r2,fr2,nw2⟩:=zx6 d3 h.hE d4 (by omega) (by rw [el,fr.lim,hx.lim];omega) hc hp.1 h.hN hp.2 is tb op
 have f2n:=fr2.next
 refine ⟨s2,c2,⟨k',k2',d1.keep f2n fr2.lim fun i hi hi2=>fr2.keep i hi2 (by omega) (fun o l c e=>by have:=(kb2 i o l c e).1;omega),r1,?_,r2,?_⟩,h.hE,by omega,by rw [fr2.lim,el,fr.lim,hx.lim];exact hl,⟨by have:=h.ext.next;omega,by rw [fr2.lim,el,fr.lim,hx.lim,h.ext.lim],fun i hi=>?_⟩,hbb,h.hN⟩
 ·refine Stk.up (d2.keep f2n fun i o l c e hb hi=>?_) fun i o l c e=>?_
  ·refine fr2.keep i hi ?_ fun o' l' c' e'=>?_
   ·rcases nw i o l c e with h6 | ⟨o',l',c',h6⟩
    ·omega
    ·have:=(kb i _ _ _ h6).1;omega
   ·rcases nw i o l c e with h6 | ⟨o2,l2,c2',h6⟩
    ·have:=(kb2 i _ _ _ e').2;omega
    ·exact h5 i _ _ _ h6 _ _ _ e'
  ·rcases nw i o l c e with h6 | ⟨o',l',c',h6⟩
   ·omega
   ·exact (kb i _ _ _ h6).1
 ·intro i o l c e o' l' c' e'
  have hi:=(k'lt i o l c e).2
  rcases nw2 i o' l' c' e' with h6 | ⟨o2,l2,c2',h6⟩
  ·omega
  ·rcases nw i o l c e with h7 | ⟨o3,l3,c3,h7⟩
   ·have:=(kb2 i _ _ _ h6).2;omega
   ·exact h5 i _ _ _ h7 _ _ _ h6
 ·have hb0:=h.ext.next
  exact (fr2.keep i (by omega) (by omega) (fun o l c e=>by have:=(kb2 i o l c e).1;omega)).trans ((em i (.inl (by omega))).trans ((fr.keep i (by omega) (by omega) (fun o l c e=>by have:=(kb i o l c e).1;omega)).trans ((hx.keep i (by omega)).trans (h.ext.keep i hi))))
theorem Two.go [Sym] (h:Two base B b b2 ws E pc ca s) {i:Nat} (hi:i<5):∃ s1,cc 13 [ptr b 0,.int .i64 i] s=some (.tuple #[],s1)∧(∀ j,j<s.next→j≠b→s1.mem.get j=s.mem.get j)∧
  ∃ s2,cc 19 [ptr b2 0,.int .i64 i] s1=some (.tuple #[],s2)∧Two base B b b2 ws E (E.getD i 0) [] s2:=by
 obtain ⟨k,k2,h1,h2,h3,h4,h5⟩:=h.ex
 obtain ⟨lb,lb2,lbn⟩:=h.lt
 have hB:=h.hB
 have hbb:=h.bb
 obtain ⟨s1,c1,q1,m1⟩:=ztL h1 h.hE hi
 have n1:=m1.next
 have d3:MqI B s1 b2 ws E pc k2:=h2.keepHi n1 m1.lim fun j hj hj2 hj3=>m1.keep j hj3 (by simp;omega)
 obtain ⟨s2,c2,r1,m2⟩:=zwN d3 h.hE hi
 have n2:=m2.next
 refine ⟨s1,c1,fun j hj hjb=>m1.keep j hj (by simpa using hjb),s2,c2,⟨zaG,zaG,q1.keep n2 m2.lim fun j hj hj2=>m2.keep j hj2 (by simp;omega),r1,Stk.nil,Stk.nil,fun i o l c e=>by cases e⟩,h.hE,by omega,by rw [m2.lim,m1.lim];exact h.hl,⟨by have:=h.ext.next;omega,by rw [m2.lim,m1.lim,h.ext.lim],fun j hj=>?_⟩,hbb,h.hN⟩
 have hb0:=h.ext.next
 exact (m2.keep j (by omega) (by simp;omega)).trans ((m1.keep j (by omega) (by simp;omega)).trans (h.ext.keep j hj))
end
end Go.Proofs.YtcplfckncandkaaGreatDoorE
namespace Go.Proofs.YtcplfckncandkaaGreatDoorE
open Go Go.E Go.Proofs
theorem zzc (a0 a1 a2 a3 a4 a5 a6 a7 a8 a9 a10 a11 b0 b1 b2 b3 b4 b5 b6 b7 b8 b9 b10 b11:Int):eqA Tryz.prog Lk0 74 (.agg #[.int .i64 a0,.int .i64 a1,.int .i64 a2,.int .i64 a3,.int .i64 a4,.int .i64 a5,.int .i64 a6,.int .i64 a7,.int .i64 a8,.int .i64 a9,.int .i64 a10,.int .i64 a11]) (.agg #[.int .i64 b0,.int .i64 b1,.int .i64 b2,.int .i64 b3,.int .i64 b4,.int .i64 b5,.int .i64 b6,.int .i64 b7,.int .i64 b8,.int .i64 b9,.int .i64 b10,.int .i64 b11])=
  some (decide (a0=b0)&&(decide (a1=b1)&&(decide (a2=b2)&&(decide (a3=b3)&&(decide (a4=b4)&&(decide (a5=b5)&&(decide (a6=b6)&&(decide (a7=b7)&&(decide (a8=b8)&&(decide (a9=b9)&&(decide (a10=b10)&&(decide (a11=b11)&&true)))))))))))):=by kernel_rfl
theorem zx8 {w:Wd} (hw:w.length=12):eqA Tryz.prog Lk0 74 (wV w) (wV w)=some true:=by
 obtain ⟨a,b,c,d,e,f,g,i,j,k,l,m,rfl⟩:=len12 hw
 refine (zzc a b c d e f g i j k l m a b c d e f g i j k l m).trans ?_
 simp
section
variable {B b : Nat} {s : SS} {ws : List Nat} {E : List Int} {pc : Int} {k : Value} {ca : List Int}
theorem zzd [Sym] (h:SqI B s b ws E pc k) (hE:E.length=5) (m:Nat):cc 14 [ptr b 0] (s.ro m)=some (.int .i64 pc,s.ro m):=by
 refine zj8 _ (s.ro m) ?_
 have l:((s.ro m).ro (s.ro m).next).ld b (0+6)=some (.int .i64 pc):=(h.pcs hE).1
 simp only [zjB,zay,zob,zad,l,zaa]
 rfl
theorem zu5 [Sym] (h:SqI B s b ws E pc k) (hE:E.length=5) {B':Nat} (hs:Stk B' s k ca) (m:Nat):cc 11 [ptr b 0] (s.ro m)=some (.int .i64 ca.length,s.ro m):=by
 refine zhD _ (s.ro m) ?_
 have l:((s.ro m).ro (s.ro m).next).ld b (0+7)=some k:=(h.pcs hE).2.1
 simp only [zgZ,zay,zob,zad,l,hs.len]
 rfl
theorem zwQ [Sym] (h:SqI B s b ws E pc k) (hE:E.length=5) {X:Nat} (h0:0≤pc) (hX:ws[pc.toNat]?=some X) (m:Nat):∃ n,s.next≤n∧cc 21 [ptr b 0] (s.ro m)=some (wV (zbe X),(s.ro m).adv n):=by
 have hp:=h.pcs hE
 obtain ⟨v,h1,h2,h3,h4⟩:=h
 have hi:pc.toNat<ws.length:=(List.getElem?_eq_some_iff.1 hX).1
 have x1:Ext (s.ro s.next) ((s.ro s.next).new (.cells Z12 0)):=(Ext.refl _).new _
 have l4:((s.ro s.next).new (.cells Z12 0)).ld b 0=some v:=(zcS x1 (show b<(s.ro s.next).next from h1.2.1)).trans (by show s.ld b 0=_;rw [h1.ld];rfl)
 have l7:((s.ro s.next).new (.cells Z12 0)).ld b (0+6)=some (.int .i64 pc):=(zcS x1 (show b<(s.ro s.next).next from h1.2.1)).trans hp.1
 obtain ⟨p8,b1,b2,_⟩:=(Rg.ext (st:=s.ro s.next) h3 x1).load (j:=pc) h0 (by omega) (zaN zaZ ws pc.toNat X hX) (zaZ X)
 have b2':((s.ro s.next).new (.cells Z12 0)).ldN p8.1 p8.2 12=some (wV (zbe X)):=b2
 obtain ⟨s10,e10,a10,x10,n10⟩:=zaR (n:=12) (st:=s.ro s.next) (zlr _) (r:=Z12) (row:=zbC X) (v:=wV (zbe X)) (zaB _) (zaZ X) (zcd _) rfl
 have r11:s10.rdN s.next 0 12=some (wV (zbe X)):=a10.rdN (zaZ X)
 refine ⟨s10.next,by have:=x10.next;exact this,ziB _ (s.ro m) ?_⟩
 unfold zht
 simp only [zay,zob,zad]
 have l7':(((s.ro s.next).new (.cells Z12 0)).ld b (0+6)).bind (asI .i64)=some pc:=by rw [l7];rfl
 refine zbi.2 ⟨_,l4,?_⟩
 refine zbi.2 ⟨_,l7',?_⟩
 refine zbi.2 ⟨_,b1,?_⟩
 refine zbi.2 ⟨_,b2',?_⟩
 refine zbi.2 ⟨_,e10,?_⟩
 refine zbi.2 ⟨_,r11,?_⟩
 rw [zo5];rfl
end
noncomputable def chkK {α:Type} (r' s' m':Value) (s:SS) (F:SS→Option α) (G:SS→Option α):Option α:=
 (cc 14 [s'] (s.ro s.next)).bind fun a=>
 ((some a.1).bind (asI .i64)).bind fun b=>
 (zaj m').bind fun c=>
 (addr? c).bind fun d=>
 (((a.2.ro s.lim).ld d.1 (d.2+2)).bind (asI .i64)).bind fun e=>
 cond (!(decide (b=e))) (F (a.2.ro s.lim)) (
 (cc 11 [s'] ((a.2.ro s.lim).ro (a.2.ro s.lim).next)).bind fun f=>
 ((some f.1).bind (asI .i64)).bind fun g=>
 (zaj m').bind fun h=>
 (addr? h).bind fun i=>
 ((f.2.ro (a.2.ro s.lim).lim).ld i.1 (i.2+3)).bind fun j=>
 ((lenV j).bind (asI .i64)).bind fun k=>
 cond (!(decide (g=k))) (F (f.2.ro (a.2.ro s.lim).lim)) (
 (cc 14 [s'] (f.2.ro (a.2.ro s.lim).lim)).bind fun l=>
 ((some l.1).bind (asI .i64)).bind fun m=>
 cond (decide (m<0)) (F l.2) (
 (cc 14 [s'] (l.2.ro l.2.next)).bind fun n=>
 ((some n.1).bind (asI .i64)).bind fun o=>
 (addr? r').bind fun p=>
 ((n.2.ro l.2.lim).ld p.1 p.2).bind fun q=>
 ((lenV q).bind (asI .i64)).bind fun t=>
 cond (decide (t≤o)) (F (n.2.ro l.2.lim)) (
 (cc 21 [s'] ((n.2.ro l.2.lim).ro (n.2.ro l.2.lim).next)).bind fun u=>
 (zaj m').bind fun v=>
 (addr? v).bind fun w=>
 ((u.2.ro (n.2.ro l.2.lim).lim).ld w.1 w.2).bind fun x=>
 (zaj m').bind fun y=>
 (addr? y).bind fun z=>
 (((u.2.ro (n.2.ro l.2.lim).lim).ld z.1 (z.2+2)).bind (asI .i64)).bind fun A=>
 (zam x A 12).bind fun B=>
 ((u.2.ro (n.2.ro l.2.lim).lim).ldN B.1 B.2 12).bind fun C=>
 (((eqA Tryz.prog Lk0 74 u.1 C).bind fun r=>some (.bool !r)).bind asB).bind fun D=>
 cond D (F (u.2.ro (n.2.ro l.2.lim).lim)) (G (u.2.ro (n.2.ro l.2.lim).lim))))))
theorem Two.chk [Sym] {α:Type} {base s:SS} {B b b2:Nat} {ws:List Nat} {E:List Int} {pc:Int} {ca:List Int} (h:Two base B b b2 ws E pc ca s) (hp:InN ws.length pc) {rb:Nat} {wv ev:Value} (ha:At base rb [wv,ev]) (hw:lenV wv=some (.int .i64 (ws.length:Int))) (F G:SS→Option α):
  ∃ s',Ext s s'∧chkK (ptr rb 0) (ptr b 0) (ptr b2 0) s F G=G s':=by
 obtain ⟨k,k2,h1,h2,h3,h4,h5⟩:=h.ex
 obtain ⟨X,hX⟩:∃ X,ws[pc.toNat]?=some X:=⟨_,zge (by have:=hp.1;have:=hp.2;omega)⟩
 have c1:=zzd h1 h.hE s.next
 have c2:=zu5 h1 h.hE h3 s.next
 have c3:=ztJ h1 h.hE
 obtain ⟨n,hn,c4⟩:=zwQ h1 h.hE hp.1 hX s.next
 obtain ⟨d1,d2,_⟩:=h2.ld h.hE
 have e1:(s.ro s.next).ro s.lim=s:=rfl
 have e2:((s.ro s.next).adv n).ro s.lim=s.adv n:=rfl
 have hv:∃ v p,s.ld b2 0=some v∧zam v pc 12=some p∧s.ldN p.1 p.2 12=some (wV (zbe X)):=by
  obtain ⟨v,w,q1,q2,q3,q4,q5,q6⟩:=h2
  obtain ⟨p,b1,b2,_⟩:=q3.load (j:=pc) hp.1 hp.2 (zaN zaZ ws pc.toNat X hX) (zaZ X)
  exact ⟨v,p,by rw [q1.ld];rfl,b1,b2⟩
 obtain ⟨v,p,l1,l2,l3⟩:=hv
 have l1':(s.adv n).ld b2 0=some v:=l1
 have d1':(s.adv n).ld b2 (0+2)=some (.int .i64 pc):=d1
 have l3':(s.adv n).ldN p.1 p.2 12=some (wV (zbe X)):=l3
 have lr:s.ld rb 0=some wv:=(ha.ext h.ext).ld
 have lw:(lenV wv).bind (asI .i64)=some (ws.length:Int):=by rw [hw];rfl
 have q1:¬ pc<0:=by have:=hp.1;omega
 have q2:¬ (ws.length:Int)≤pc:=by have:=hp.2;omega
 have q3:=h4.len
 refine ⟨s.adv n,(Ext.refl _).adv hn,?_⟩
 unfold chkK
 rw [c1,zob]
 simp only [zob,zaa,zay,zad,e1,d1,decide_true,znt,zcf]
 rw [c2,zob]
 simp only [zob,zaa,e1,d2,q3,decide_true,znt,zcf]
 rw [c3,zob]
 simp only [zob,zaa,zdf q1,zcf]
 rw [c1,zob]
 simp only [zob,zaa,e1,lr,lw,zdf q2,zcf]
 rw [c4,zob]
 simp only [e2,l1',zob,d1',zaa,l2,l3',zx8 (ztH X),znt,zah,zcf]
end Go.Proofs.YtcplfckncandkaaGreatDoorE
namespace Go.Proofs.YtcplfckncandkaaGreatDoorE
open Go Go.E Go.Proofs
structure Step5 where
 go:Bool
 en:Int
 is:Bool
 tb:Int
 op:Int
def stepRow (x:Step5):List Value:=[.bool x.go,.int .i64 x.en,.bool x.is,.int .i64 x.tb,.int .i64 x.op]
theorem stepRow_len (x:Step5):(stepRow x).length=5:=rfl
theorem zwR {g:Nat} (h:12≤g):Lk0.glob g=false:=by
 cases hg:Lk0.glob g with
 | false=>rfl
 | true=>
   obtain ⟨x,hx,rfl⟩:=List.mem_map.1 (zwH g hg)
   have:=zuY x hx
   omega
theorem bar_ok {s:SS} {i k:Nat} {row:List Value} (h:At s i row) (hi:12≤i):znE Lk0 s (ptr i k)=some (i,row):=by
 unfold znE
 have hb:(Nat.blt i s.next&&!Lk0.glob i)=true:=by rw [zwR hi,zae,Nat.blt_eq];exact ⟨h.2.1,rfl⟩
 simp only [zad,zob,h.1,hb,zct]
section
variable {base s : SS} {B b b2 : Nat} {ws : List Nat} {E : List Int} {pc : Int} {ca : List Int}
theorem Two.goOut [Sym] (h:Two base B b b2 ws E pc ca s) {n:Int} (hn:¬ (0≤n∧n≤4)):cc 13 [ptr b 0,.int .i64 n] s=some (.tuple #[],s)∧cc 19 [ptr b2 0,.int .i64 n] s=some (.tuple #[],s):=by
 refine ⟨zj9 _ _ s ?_,zfh _ _ s ?_⟩
 ·by_cases h0:0≤n
  ·have h1:¬ n≤4:=fun h1=>hn ⟨h0,h1⟩
   have h2:¬ n<5:=by omega
   simp only [zhf,zdt h0,zct,zdf h1,zdf h2,zcf]
  ·simp only [zhf,zdf h0,zcf]
 ·by_cases h0:0≤n
  ·have h1:¬ n≤4:=fun h1=>hn ⟨h0,h1⟩
   simp only [zcZ,zdt h0,zct,zdf h1,zcf]
  ·simp only [zcZ,zdf h0,zcf]
theorem Two.goAny [Sym] (h:Two base B b b2 ws E pc ca s) (hp:InN ws.length pc) (hc:∀ a∈ca,InN ws.length a) (hl:ca.length≤8) (hEn:∀ i,i<5→InN ws.length (E.getD i 0)) (n:Int):
  ∃ s1 s2 pc' ca',cc 13 [ptr b 0,.int .i64 n] s=some (.tuple #[],s1)∧(∀ j,j<s.next→j≠b→s1.mem.get j=s.mem.get j)∧cc 19 [ptr b2 0,.int .i64 n] s1=some (.tuple #[],s2)∧Two base B b b2 ws E pc' ca' s2∧InN ws.length pc'∧(∀ a∈ca',InN ws.length a)∧ca'.length≤8:=by
 by_cases hn:0≤n∧n≤4
 ·obtain ⟨i,rfl⟩:∃ i:Nat,n=(i:Int):=⟨n.toNat,by omega⟩
  obtain ⟨s1,c1,k1,s2,c2,h2⟩:=h.go (i:=i) (by omega)
  exact ⟨s1,s2,_,[],c1,k1,c2,h2,hEn i (by omega),(fun a ha=>by cases ha),by simp⟩
 ·obtain ⟨c1,c2⟩:=h.goOut hn
  exact ⟨s,s,pc,ca,c1,fun _ _ _=>rfl,c2,h,hp,hc,hl⟩
theorem zqR [Sym] (hX:12≤base.next) (hw:zdr ws=true) (hEn:∀ i,i<5→InN ws.length (E.getD i 0)) {rb:Nat} {wv ev:Value} (ha:At base rb [wv,ev]) (hwv:lenV wv=some (.int .i64 (ws.length:Int))) (steps:List Step5) (hn:steps.length≤1000) (tv:Value) (hT:Rg base tv (rowsF stepRow steps) 5 steps.length):
  ∀ (k j:Nat) (pc:Int) (ca:List Int) (s:SS),steps.length=k+j→Two base B b b2 ws E pc ca s→InN ws.length pc→(∀ a∈ca,InN ws.length a)→ca.length≤8→
   ∃ s',zbp 8 [ptr rb 0,ptr b 0,ptr b2 0,tv,.int .i64 steps.length,.int .i64 j] s=some (0,[],s')
 | 0,j,pc,ca,s,hk,h,hp,hc,hl=>by
   have hlt:¬ (j:Int)<(steps.length:Int):=by omega
   refine ⟨s,zdb _ _ _ _ _ _ s ?_⟩
   simp only [zcF,zdf hlt,zcf]
 | k+1,j,pc,ca,s,hk,h,hp,hc,hl=>by
   have hlt:(j:Int)<(steps.length:Int):=by omega
   obtain ⟨x,hx⟩:∃ x,steps[j]?=some x:=⟨_,zge (by omega)⟩
   obtain ⟨lb,lb2,lbn⟩:=h.lt
   have hbb:=h.bb
   have hls:s.lim≤s.next:=by have:=h.hl;omega
   obtain ⟨p1,e1,l1,_⟩:=(hT.ext h.ext).load (j:=(j:Int)) (by omega) hlt (zaN stepRow_len steps j x hx) (stepRow_len x)
   obtain ⟨s4,e4,a4,x4,n4⟩:=zaR (st:=s) hls (r:=[.bool false,.int .i64 0,.bool false,.int .i64 0,.int .i64 0]) (zaB (stepRow x)) (n:=5) (stepRow_len x) rfl rfl
   have hw1:IntKind.wrap .i64 ((j:Int)+1)=((j+1:Nat):Int):=zaQ (by omega)
   have t0:s4.ld s.next 0=some (.bool x.go):=a4.ld
   have t1:s4.ld s.next 1=some (.int .i64 x.en):=a4.ld
   have t2:s4.ld s.next 2=some (.bool x.is):=a4.ld
   have t3:s4.ld s.next 3=some (.int .i64 x.tb):=a4.ld
   have t4:s4.ld s.next 4=some (.int .i64 x.op):=a4.ld
   have fin:∀ (pc':Int) (ca':List Int) (s2:SS),Two base B b b2 ws E pc' ca' s2→InN ws.length pc'→(∀ a∈ca',InN ws.length a)→ca'.length≤8→
     ∃ s',chkK (ptr rb 0) (ptr b 0) (ptr b2 0) s2 (fun st=>some (1,[.bool false],st)) (fun st=>zbp 8 [ptr rb 0,ptr b 0,ptr b2 0,tv,.int .i64 steps.length,.int .i64 (IntKind.wrap .i64 ((j:Int)+1))] st)=some (0,[],s'):=fun pc' ca' s2 h2 hp2 hc2 hl2=>by
    obtain ⟨s3,x3,h3⟩:=h2.chk hp2 ha hwv (fun st=>some (1,[.bool false],st)) (fun st=>zbp 8 [ptr rb 0,ptr b 0,ptr b2 0,tv,.int .i64 steps.length,.int .i64 (IntKind.wrap .i64 ((j:Int)+1))] st)
    obtain ⟨s',ih⟩:=zqR hX hw hEn ha hwv steps hn tv hT k (j+1) pc' ca' s3 (by omega) (h2.extend x3) hp2 hc2 hl2
    exact ⟨s',by rw [h3,hw1];exact ih⟩
   cases hgo:x.go with
   | true=>
     rw [hgo] at t0
     obtain ⟨s7,s9,pc',ca',c7,k7,c9,h9,hp9,hc9,hl9⟩:=(h.extend x4).goAny hp hc hl hEn x.en
     have t1':s7.ld s.next 1=some (.int .i64 x.en):=by
      unfold SS.ld
      rw [k7 s.next (by omega) (by omega)]
      exact t1
     obtain ⟨s',hf⟩:=fin pc' ca' s9 h9 hp9 hc9 hl9
     refine ⟨s',zdb _ _ _ _ _ _ s ?_⟩
     simp only [zcF,zdt hlt,zct,e1,zob,l1]
     rw [e4,zob]
     simp only [t0,zob,zah,zct,t1,zaa]
     rw [c7,zob]
     simp only [t1',zob,zaa]
     rw [c9,zob]
     exact hf
   | false=>
     rw [hgo] at t0
     have hw42:=bar_ok (k:=0) a4 (by have:=h.ext.next;omega)
     have hxf:Ext s (s4.frz (s.next,stepRow x)):=⟨by show s.next≤s4.next;omega,x4.lim,fun i hi=>by
      show (s4.mem.upd s.next _).get i=_
      rw [PT.get_upd,if_neg (by omega)]
      exact x4.keep i hi⟩
     obtain ⟨s43,c43,k43,n43,l43,hrest⟩:=h.step hp hl hxf x.is x.tb x.op
     have hfn:(s4.frz (s.next,stepRow x)).next=s4.next:=rfl
     obtain ⟨s48,c48,h48⟩:=hrest (s43.unfrz (s.next,stepRow x)) rfl rfl (fun i hi=>by
      show (s43.mem.upd s.next _).get i=_
      rw [PT.get_upd,if_neg (by omega)])
     have hget:(s43.unfrz (s.next,stepRow x)).mem.get s.next=some (.cells (stepRow x) 0):=by
      show (s43.mem.upd s.next _).get s.next=_
      rw [PT.get_upd,if_pos rfl]
     have u2:(s43.unfrz (s.next,stepRow x)).ld s.next 2=some (.bool x.is):=by rw [SS.ld_cells hget];rfl
     have u3:(s43.unfrz (s.next,stepRow x)).ld s.next 3=some (.int .i64 x.tb):=by rw [SS.ld_cells hget];rfl
     have u4:(s43.unfrz (s.next,stepRow x)).ld s.next 4=some (.int .i64 x.op):=by rw [SS.ld_cells hget];rfl
     obtain ⟨r1,r2,r3⟩:=zx7 hw h.hE hEn hp hc hl x.is x.tb x.op
     obtain ⟨s',hf⟩:=fin _ _ s48 h48 r1 r2 r3
     have hbe:(!((zbN ws E pc ca x.is x.tb x.op).2.2==(zbN ws E pc ca x.is x.tb x.op).2.2))=false:=by simp
     refine ⟨s',zdb _ _ _ _ _ _ s ?_⟩
     simp only [zcF,zdt hlt,zct,e1,zob,l1]
     rw [e4,zob]
     simp only [t0,zob,zah,zcf,t2,t3,t4,zaa]
     rw [hw42,zob,c43,zob]
     simp only [zob,zah,u2,u3,u4,zaa]
     rw [c48,zob]
     simp only [zob,zah,hbe,zcf]
     exact hf
end
end Go.Proofs.YtcplfckncandkaaGreatDoorE
namespace Go.Proofs.YtcplfckncandkaaGreatDoorE
open Go Go.E Go.Proofs
def zgG (d:Int):List En→List UInt8→Int
 | [],_=>d
 | e::r,n=>if e.1=n then zgG e.2 r n else zgG d r n
theorem zss:∀ (es:List En) (d:Int) (n:List UInt8),n∉es.map (·.1)→zgG d es n=d
 | [],d,n,_=>rfl
 | e::r,d,n,h=>by
   simp only [List.map_cons,List.mem_cons,not_or] at h
   unfold zgG
   rw [if_neg (fun x=>h.1 x.symm)]
   exact zss r d n h.2
theorem zpr:∀ (es:List En),(es.map (·.1)).Nodup→(∀ e∈es,0≤e.2)→∀ n,match zdN es n with
  | none=>zgG (-1) es n= -1
  | some x=>zgG (-1) es n=x∧0≤x
 | [],_,_,n=>rfl
 | e::r,hd,h0,n=>by
   simp only [List.map_cons,List.nodup_cons] at hd
   unfold zdN zgG
   by_cases h:e.1=n
   ·rw [if_pos h,if_pos h]
    subst h
    exact ⟨zss r _ _ hd.1,h0 e (by simp)⟩
   ·rw [if_neg h,if_neg h]
    exact zpr r hd.2 (fun e he=>h0 e (by simp [he])) n
theorem zze {N:Nat} {es:List En} (h:zdp N es=true):N≤2048∧es.length≤255∧(es.map (·.1)).Nodup∧∀ e∈es,0≤e.2∧e.2<(N:Int):=by
 unfold zdp at h
 simp only [zae,Nat.ble_eq] at h
 obtain ⟨h1,h2,h3⟩:=h
 rw [List.all_eq_true] at h3
 have key:∀ i e,es[i]?=some e→e.1∉(es.take i).map (·.1)∧0≤e.2∧e.2<(N:Int):=fun i e he=>by
  have hi:i<es.length:=(List.getElem?_eq_some_iff.1 he).1
  have:=h3 i (List.mem_range.2 hi)
  rw [zfK he] at this
  simp only [zae,Bool.not_eq_true',decide_eq_false_iff_not] at this
  exact ⟨this.2.2.2,by omega,by omega⟩
 refine ⟨h1,h2,?_,fun e he=>?_⟩
 ·rw [List.Nodup,List.pairwise_iff_getElem]
  intro i j hi hj hij e
  simp only [List.length_map] at hi hj
  have hk:=(key j es[j] (zge hj)).1
  refine hk ?_
  simp only [List.getElem_map] at e
  rw [← e]
  refine List.mem_map_of_mem ?_
  rw [List.mem_take_iff_getElem]
  exact ⟨i,by omega,rfl⟩
 ·obtain ⟨i,hi,rfl⟩:=List.mem_iff_getElem.1 he
  exact (key i _ (zge hi)).2
theorem rnew21 [Sym] {r b:Nat} {v59 ev:Value} {t60 t61:Int} {n:List UInt8} (es:List En) (hsz:es.length≤1099511627776) (base:SS) (hll:base.lim≤base.next) (hv:Rg base ev (rowsF zaK es) 2 es.length):∀ (k j:Nat) (d:Int) (s:SS),es.length=k+j→Ext base s→
  ∃ s',Ext base s'∧zas 21 [ptr r 0,ptr b 0,.string (mkS n),.int .i64 d,v59,.int .i64 t60,.int .i64 t61,ev,.int .i64 es.length,.int .i64 j] s=some (0,[ptr r 0,ptr b 0,.int .i64 (zgG d (es.drop j) n),v59,.int .i64 t60,.int .i64 t61],s'):=by
 intro k
 induction k with
 | zero=>
   intro j d s hk he
   have h:¬ (j:Int)<(es.length:Int):=by omega
   rw [List.drop_of_length_le (by omega)]
   refine ⟨s,he,zda _ _ _ _ _ _ _ _ _ _ s ?_⟩
   simp only [zcE,zdf h,zcf]
   rfl
 | succ k ih=>
   intro j d s hk he
   have h:(j:Int)<(es.length:Int):=by omega
   obtain ⟨e,hg⟩:∃ e,es[j]?=some e:=⟨_,zge (by omega)⟩
   obtain ⟨p1,b1,b2,_⟩:=(hv.ext he).load (j:=(j:Int)) (by omega) h (zaN zd0 es j e hg) rfl
   have b2':s.ldN p1.1 p1.2 2=some (.agg (zaK e).toArray):=b2
   obtain ⟨s4,e4,a4,x4,n4⟩:=zaR (n:=2) (st:=s) (he.ll hll) (r:=zaK ([],0)) (row:=zaK e) (v:=.agg (zaK e).toArray) (zaB _) rfl rfl rfl
   have e4':(s.new (.cells [.string ⟨#[]⟩,.int .i64 0] 0)).stV s.next 0 2 (.agg (zaK e).toArray)=some s4:=e4
   have he4:=he.trans x4
   have l5:s4.ld s.next 0=some (.string (mkS e.1)):=a4.ld
   have l6:s4.ld s.next 1=some (.int .i64 e.2):=a4.ld
   have hw1:=zaQ (i:=j) (by omega)
   rw [drop_cons hg]
   unfold zgG
   by_cases hf:e.1=n
   ·rw [if_pos hf]
    obtain ⟨s',f1,f2⟩:=ih (j+1) e.2 s4 (by omega) he4
    refine ⟨s',f1,zda _ _ _ _ _ _ _ _ _ _ s ?_⟩
    simp only [zcE,zdt h,zct,b1,b2',e4',zob,l5,zac,zch,zdt hf,l6,zaa,hw1]
    exact f2
   ·rw [if_neg hf]
    obtain ⟨s',f1,f2⟩:=ih (j+1) d s4 (by omega) he4
    refine ⟨s',f1,zda _ _ _ _ _ _ _ _ _ _ s ?_⟩
    simp only [zcE,zdt h,zct,b1,b2',e4',zob,l5,zac,zch,zdf hf,zcf,hw1]
    exact f2
theorem rnew17 [Sym] {r b:Nat} {wv ev v v59:Value} {ws:List Nat} {es:List En} {base:SS} (hb:base.next=b) (hll:base.lim≤base.next) (hsz:es.length≤255) (hnd:(es.map (·.1)).Nodup) (h0:∀ e∈es,0≤e.2) (hr:base.ld r (0+1)=some ev) (hlt:r<base.next) (hev:Rg base ev (rowsF zaK es) 2 es.length) {base2:SS} (h2b:Ext base base2) (h59:Rg base2 v59 (rowsF strRow zbc) 1 5) (hv59:∀ i l c,v59=.slice (some ⟨i,0,none⟩) l c→i≠b) (ho:Own (b+1) base2 v (rowsF zbC ws) 12 ws.length) (hb2:b<base2.next):∀ (k i:Nat) (pre:List Int) (w:Value) (s:SS),5=k+i→pre.length=i→Mod [b] base2 s→Ext base s→At s b (ziU v w 0 zaG)→Own base2.next s w (rowsF zog pre) 1 pre.length→
  (match zef es (zbc.drop i) with
  | none=>∃ s',Ext base s'∧zas 17 [ptr r 0,ptr b 0,v59,.int .i64 5,.int .i64 i] s=some (1,[.pointer none,.bool false],s')
  | some xs=>∃ s' w',Ext base s'∧zas 17 [ptr r 0,ptr b 0,v59,.int .i64 5,.int .i64 i] s=some (0,[ptr b 0],s')∧At s' b (ziU v w' 0 zaG)∧Own (b+1) s' v (rowsF zbC ws) 12 ws.length∧Own base2.next s' w' (rowsF zog (pre++xs)) 1 5):=by
 intro k
 induction k with
 | zero=>
   intro i pre w s hk hp hm he ha how
   have h:¬ (i:Int)<5:=by omega
   have hi:i=5:=by omega
   subst hi
   rw [hp] at how
   refine ⟨s,w,he,zc9 _ _ _ _ _ s ?_,ha,ho.modLt hm (by simp),by rw [List.append_nil];exact how⟩
   simp only [zcD,zdf h,zcf]
 | succ k ih=>
   intro i pre w s hk hp hm he ha how
   have h:(i:Int)<5:=by omega
   obtain ⟨n,hn⟩:∃ n,zbc[i]?=some n:=⟨_,zge (by rw [zso];omega)⟩
   obtain ⟨p1,b1,b2⟩:=zqO (h59.mod hm (fun i l c e hi=>hv59 i l c e (by simpa using hi))) hn
   have l4:s.ld r (0+1)=some ev:=(zcS he hlt).trans hr
   have q5:=hev.lenI
   obtain ⟨s6,x6,f6⟩:=rnew21 (r:=r) (b:=b) (v59:=v59) (t60:=5) (t61:=i) (n:=n) es (by omega) s (he.ll hll) (hev.ext he) es.length 0 (-1) s rfl (Ext.refl _)
   rw [List.drop_zero] at f6
   have f6':zas 21 [ptr r 0,ptr b 0,.string (mkS n),.int .i64 (-1),v59,.int .i64 5,.int .i64 i,ev,.int .i64 es.length,.int .i64 0] s=_:=f6
   have he6:=he.trans x6
   have a6:=ha.ext x6
   have hfind:=zpr es hnd h0 n
   rw [drop_cons hn]
   unfold zef
   cases hq:zdN es n with
   | none=>
     rw [hq] at hfind
     simp only at hfind
     have hneg:zgG (-1) es n<0:=by rw [hfind];omega
     refine ⟨s6,he6,zc9 _ _ _ _ _ s ?_⟩
     simp only [zcD,zdt h,zct,b1,zob,b2,zac,zad,l4,q5]
     refine zbi.2 ⟨_,f6',?_⟩
     simp only [zgs,zgz,zob,zaa,zdt hneg,zct]
   | some x=>
     rw [hq] at hfind
     simp only at hfind
     obtain ⟨hx,hx0⟩:=hfind
     have hneg:¬ zgG (-1) es n<0:=by omega
     have l15:s6.ld b (0+1)=some w:=a6.ld
     have h26:base2.next≤s6.next:=zlt hm.next x6.next
     obtain ⟨w',s',g1,g2,g3,g4,g5⟩:=(how.ext x6).pushM (row:=zog x) (bt:=8) h26 (by rw [he6.lim];have:=h2b.next;omega) rfl (by omega) rfl (by omega) (by omega)
     have hcv:=g2.cell
     have ha':At s' b (ziU v w 0 zaG):=⟨(g5 b hb2).trans a6.1,by have:=a6.2.1;omega,by rw [g3];exact a6.2.2⟩
     obtain ⟨s2,e2,a2,m2,n2⟩:=ha'.set1V (k:=0+1) (x:=w') hcv.1 (by decide:1<4) hcv.2
     have m6:Mod [b] base2 s6:=hm.thenX x6
     have ms':Mod [b] base2 s':=⟨zlt m6.next g4,g3.trans m6.lim,fun j hj hS=>(g5 j hj).trans (m6.keep j hj hS)⟩
     have xs':Ext base s':=⟨zlt he6.next g4,g3.trans he6.lim,fun j hj=>(g5 j (by have:=h2b.next;omega)).trans (he6.keep j hj)⟩
     have xs2:Ext base s2:=((Mod.ofExt (S:=[]) xs').thenI m2 (.inl (by omega))).toExt
     have ms2:Mod [b] base2 s2:=ms'.then m2
     have o2:Own base2.next s2 w' (rowsF zog (pre++[x])) 1 (pre++[x]).length:=by
      rw [zbW,zc3,List.length_append,List.length_singleton]
      exact g2.modLt m2 (by simpa using hb2)
     have hres:=ih (i+1) (pre++[x]) w' s2 (by omega) (by simp [hp]) ms2 xs2 a2 o2
     have hw1:=zaQ (i:=i) (by omega)
     have step:∀ rr,zas 17 [ptr r 0,ptr b 0,v59,.int .i64 5,.int .i64 (i+1:Nat)] s2=some rr→zas 17 [ptr r 0,ptr b 0,v59,.int .i64 5,.int .i64 i] s=some rr:=fun rr hrr=>by
      refine zc9 _ _ _ _ _ s ?_
      simp only [zcD,zdt h,zct,b1,zob,b2,zac,zad,l4,q5]
      refine zbi.2 ⟨_,f6',?_⟩
      simp only [zgs,zgz,zob,zaa,zdf hneg,zcf,zay,zad,l15]
      rw [hx]
      refine zbi.2 ⟨_,g1,?_⟩
      simp only [e2,zob,hw1]
      exact hrr
     cases hq2:zef es (zbc.drop (i+1)) with
     | none=>
       rw [hq2] at hres
       obtain ⟨s',y1,y2⟩:=hres
       exact ⟨s',y1,step _ y2⟩
     | some xs=>
       rw [hq2] at hres
       obtain ⟨s',w'',y1,y2,y3,y4,y5⟩:=hres
       rw [List.append_assoc] at y5
       exact ⟨s',w'',y1,step _ y2,y3,y4,y5⟩
theorem ztM [Sym] {ws:List Nat} {es:List En} (hnl:∀ e∈es,e.1.length≤1000000) {wv ev:Value} {st:SS} (hl:st.lim≤st.next) (hX:∀ X∈ws,X<2^64) (o1:Rg st wv (rowsF uRow ws) 1 ws.length) (o2:Rg st ev (rowsF zaK es) 2 es.length):
  match newT ws es with
  | none=>∃ s',Ext st s'∧cc 18 [zbt wv ev] st=some (.tuple #[.pointer none,.bool false],s')
  | some E=>∃ s' b v w,Ext st s'∧cc 18 [zbt wv ev] st=some (.tuple #[ptr b 0,.bool true],s')∧st.next≤b∧At s' b (ziU v w (E.getD 0 0) zaG)∧Own (b+1) s' v (rowsF zbC ws) 12 ws.length∧Own (b+1) s' w (rowsF zog E) 1 5:=by
 have hc:(zbt wv ev).cells.toList=[wv,ev]:=by show (Value.agg [wv,ev].toArray).cells.toList=_;exact zaB _
 have x1:Ext st (st.new (.cells [wv,ev] 0)):=(Ext.refl _).new _
 have a1:At (st.new (.cells [wv,ev] 0)) st.next [wv,ev]:=At.new hl _
 have hn1:(st.new (.cells [wv,ev] 0)).next=st.next+1:=rfl
 obtain ⟨s1,hs1⟩:∃ s1,st.new (.cells [wv,ev] 0)=s1:=⟨_,rfl⟩
 rw [hs1] at x1 a1 hn1
 have l2:s1.ldN st.next 0 2=some (zbt wv ev):=a1.ldN rfl
 obtain ⟨s3,c3,x3⟩:=zs4 hnl (x1.ll hl) (o1.ext x1) (o2.ext x1)
 have hx3:=x1.trans x3
 unfold newT
 cases hG:zdp ws.length es with
 | false=>
   rw [hG] at c3
   refine ⟨s3,hx3,zcW _ st ?_⟩
   simp only [zcQ,hc,hs1,l2,zob,c3,zah,znf,zct]
 | true=>
   rw [hG] at c3
   obtain ⟨hw,hes,hnd,h0⟩:=zze hG
   have hlm:s3.lim≤s3.next:=hx3.ll hl
   have a5:At (s3.new (.cells (ziU zaG zaG 0 zaG) 0)) s3.next (ziU zaG zaG 0 zaG):=At.new hlm _
   have x5:Ext s3 (s3.new (.cells (ziU zaG zaG 0 zaG) 0)):=(Ext.refl _).new _
   have l0:s3.ld st.next 0=some wv:=(a1.ext x3).ld
   have l6:(s3.new (.cells (ziU zaG zaG 0 zaG) 0)).ld st.next 0=some wv:=((a1.ext x3).ext x5).ld
   have q7:=o1.lenI
   have hlt:st.next<s3.next:=by have:=x3.next;omega
   have f5:=rnew5 (r:=st.next) (b:=s3.next) (wv:=wv) (ev:=ev) (tl:=[zaG,.int .i64 0,zaG]) (ws:=ws) rfl hlm hw hX l0 hlt (o1.ext hx3) ws.length 0 _ zaG rfl x5 a5 (Own.nil _ _ _)
   rw [zkt] at f5
   cases hW:zdr ws with
   | false=>
     rw [hW] at f5
     obtain ⟨s8,x8,f8⟩:=f5
     have f8':zas 5 [ptr st.next 0,ptr s3.next 0,wv,.int .i64 ws.length,.int .i64 0] (s3.new (.cells (ziU zaG zaG 0 zaG) 0))=_:=f8
     have b0:Nat.beq 1 0=false:=rfl
     refine ⟨s8,hx3.trans x8,zcW _ st ?_⟩
     simp only [zcQ,hc,hs1,l2,zob,c3,zah,znt,zcf]
     refine zbi.2 ⟨_,l6,?_⟩
     refine zbi.2 ⟨_,q7,?_⟩
     refine zbi.2 ⟨_,f8',?_⟩
     simp only [b0,zcf,zgz,zgs,zob,zah]
   | true=>
     rw [hW] at f5
     obtain ⟨s8,v,x8,f8,a8,o8⟩:=f5
     have f8':zas 5 [ptr st.next 0,ptr s3.next 0,wv,.int .i64 ws.length,.int .i64 0] (s3.new (.cells (ziU zaG zaG 0 zaG) 0))=_:=f8
     have b0:Nat.beq 0 0=true:=rfl
     have c11:cc 40 [] s8=some (.slice (some ⟨s8.next,0,none⟩) 5 5,s8.new (.cells (rowsF strRow zbc) 1)):=ziK s8 rfl
     have x11:Ext s8 (s8.new (.cells (rowsF strRow zbc) 1)):=(Ext.refl _).new _
     have g58:Rg (s8.new (.cells (rowsF strRow zbc) 1)) (.slice (some ⟨s8.next,0,none⟩) 5 5) (rowsF strRow zbc) 1 5:=(zks (st:=s8) (row:=rowsF strRow zbc) (n:=5) rfl (by omega)).rg
     have q12:(lenV (.slice (some ⟨s8.next,0,none⟩) 5 5)).bind (asI .i64)=some 5:=rfl
     have hb8:s3.next<s8.next:=a8.lt
     have f13:=rnew17 (r:=st.next) (b:=s3.next) (wv:=wv) (ev:=ev) (v:=v) (v59:=.slice (some ⟨s8.next,0,none⟩) 5 5) (ws:=ws) (es:=es) (base:=s3) rfl hlm hes hnd (fun e he=>(h0 e he).1) (a1.ext x3).ld hlt (o2.ext hx3) (base2:=s8.new (.cells (rowsF strRow zbc) 1)) (x8.trans x11) g58 (fun i l c e=>by cases e;omega) (o8.ext x11) (by show s3.next<s8.next+1;omega) 5 0 [] zaG _ rfl rfl (Mod.refl _) (x8.trans x11) (a8.ext x11) (Own.nil _ _ _)
     rw [List.drop_zero] at f13
     simp only [Bool.and_self,zct]
     cases hT:zef es zbc with
     | none=>
       rw [hT] at f13
       obtain ⟨s13,x13,f13⟩:=f13
       have f13':zas 17 [ptr st.next 0,ptr s3.next 0,.slice (some ⟨s8.next,0,none⟩) 5 5,.int .i64 5,.int .i64 0] (s8.new (.cells (rowsF strRow zbc) 1))=_:=f13
       have b1:Nat.beq 1 0=false:=rfl
       refine ⟨s13,hx3.trans x13,zcW _ st ?_⟩
       simp only [zcQ,hc,hs1,l2,zob,c3,zah,znt,zcf]
       refine zbi.2 ⟨_,l6,?_⟩
       refine zbi.2 ⟨_,q7,?_⟩
       refine zbi.2 ⟨_,f8',?_⟩
       simp only [b0,zct,zgz,zgs,zob,c11,q12]
       refine zbi.2 ⟨_,f13',?_⟩
       simp only [b1,zcf,zgz,zgs,zob,zah]
     | some E=>
       rw [hT] at f13
       obtain ⟨s13,w,x13,f13,a13,o13,ow⟩:=f13
       have f13':zas 17 [ptr st.next 0,ptr s3.next 0,.slice (some ⟨s8.next,0,none⟩) 5 5,.int .i64 5,.int .i64 0] (s8.new (.cells (rowsF strRow zbc) 1))=_:=f13
       have hE:E.length=5:=zlp es zbc E hT
       rw [List.nil_append] at ow
       obtain ⟨x,hx⟩:∃ x,E[0]?=some x:=⟨_,zge (by omega)⟩
       have hx':E.getD 0 0=x:=by rw [List.getD_eq_getElem?_getD,hx];rfl
       have l17:s13.ld s3.next (0+1)=some w:=a13.ld
       have gw:=ow.rg
       rw [← hE] at gw
       obtain ⟨p18,d1,_,d3⟩:=gw.load (j:=((0:Nat):Int)) (by omega) (by omega) (zaN zoh E 0 x hx) rfl
       have d1':zam w 0 1=some p18:=d1
       have d3':s13.ld p18.1 p18.2=some (.int .i64 x):=d3 0 _ rfl
       obtain ⟨s15,e15,a15,m15,n15⟩:=a13.set1 (k:=0+2) (x:=.int .i64 x) (by decide:2<4) rfl
       have hb2n:s3.next+1≤(s8.new (.cells (rowsF strRow zbc) 1)).next:=by show s3.next+1≤s8.next+1;omega
       refine ⟨s15,s3.next,v,w,hx3.trans ((Mod.ofExt (S:=[]) x13).thenI m15 (.inl (zlr _))).toExt,zcW _ st ?_,by omega,by rw [hx'];exact a15,o13.modLt m15 (by simp),(ow.low hb2n).modLt m15 (by simp)⟩
       simp only [zcQ,hc,hs1,l2,zob,c3,zah,znt,zcf]
       refine zbi.2 ⟨_,l6,?_⟩
       refine zbi.2 ⟨_,q7,?_⟩
       refine zbi.2 ⟨_,f8',?_⟩
       simp only [b0,zct,zgz,zgs,zob,c11,q12]
       refine zbi.2 ⟨_,f13',?_⟩
       simp only [b0,zct,zgz,zob,zay,zad,l17,d1',d3',zaa,e15]
end Go.Proofs.YtcplfckncandkaaGreatDoorE
namespace Go.Proofs.YtcplfckncandkaaGreatDoorE
set_option maxRecDepth 1000000
open Go Go.E Go.Proofs
theorem zlq [Sym] {base:SS} {B b:Nat} {ws:List Nat} {E:List Int} {q:Int×List Int×Bool} {s:SS} {i:Nat} (h:Sq base B b ws E q.1 q.2.1 s) (hi:i<3) (hq:inW ws q.1 q.2.1=true) (hn:(nx0 ws E q).2.2=false):
  ∃ s',Sq base B b ws E (nx0 ws E q).1 (nx0 ws E q).2.1 s'∧∀ r,zbj 6 [ptr b 0,.int .i64 (i+1:Nat)] s'=some r→zbj 6 [ptr b 0,.int .i64 i] s=some r:=by
 obtain ⟨s',c,h'⟩:=h.next hq false 0 0
 have hn':(zbN ws E q.1 q.2.1 false 0 0).2.2=false:=hn
 rw [hn'] at c
 have h3:(i:Int)<3:=by omega
 have hw:=zaQ (i:=i) (by omega)
 refine ⟨s',h',fun r hr=>zeL _ _ s ?_⟩
 simp only [zfM,zdt h3,zct,c,zob,zah,zcf,hw]
 exact hr
theorem zzf [Sym] (st:SS) (hg:Gd st):∃ n,st.next≤n∧cc 6 [] st=some (.bool true,st.adv n):=by
 obtain ⟨s1,wv,ev,s7,s8,s10,b,ws,E,c1,e7,e8,l9,c10,q0,hp⟩:=zza (st:=st.ro st.next) hg.ro (zlr _) (t:=zsq) (by decide) aliveQ
 unfold zwP at hp
 simp only [zae,Bool.not_eq_true',decide_eq_true_eq] at hp
 obtain ⟨i0,i1,i2,i3,f1,f2,f3,p3,f4,p4⟩:=hp
 obtain ⟨t1,q1,r1⟩:=zlq (i:=0) (q:=(E.getD 0 0,[],false)) q0 (by omega) i0 f1
 obtain ⟨t2,q2,r2⟩:=zlq (i:=1) q1 (by omega) i1 f2
 obtain ⟨t3,q3,r3⟩:=zlq (i:=2) q2 (by omega) i2 f3
 have r4:zbj 6 [ptr b 0,.int .i64 (3:Nat)] t3=some (0,[ptr b 0],t3):=by
  refine zeL _ _ t3 ?_
  rfl
 have f13:zbj 6 [ptr b 0,.int .i64 0] s10=some (0,[ptr b 0],t3):=r1 _ (r2 _ (r3 _ r4))
 have c15:=q3.at
 obtain ⟨t4,c17,q4⟩:=q3.next i3 false 0 0
 have f4':(zbN ws E (nx0 ws E (nx0 ws E (nx0 ws E (E.getD 0 0,[],false)))).1 (nx0 ws E (nx0 ws E (nx0 ws E (E.getD 0 0,[],false)))).2.1 false 0 0).2.2=true:=f4
 rw [f4'] at c17
 have c19:=q4.at
 have p4':(zbN ws E (nx0 ws E (nx0 ws E (nx0 ws E (E.getD 0 0,[],false)))).1 (nx0 ws E (nx0 ws E (nx0 ws E (E.getD 0 0,[],false)))).2.1 false 0 0).1=0:=p4
 have b0:Nat.beq 0 0=true:=rfl
 have c1':cc 7 [.string (mkS zsq)] (st.ro st.next)=_:=c1
 refine ⟨t4.next,q4.ext.next,zjO st ?_⟩
 unfold zgM
 refine zbi.2 ⟨_,c1',?_⟩
 refine zbi.2 ⟨_,rfl,?_⟩
 refine zbi.2 ⟨_,rfl,?_⟩
 refine zbi.2 ⟨_,rfl,?_⟩
 refine zbi.2 ⟨_,e7,?_⟩
 refine zbi.2 ⟨_,e8,?_⟩
 refine zbi.2 ⟨_,l9,?_⟩
 refine zbi.2 ⟨_,c10,?_⟩
 refine zbi.2 ⟨_,rfl,?_⟩
 refine zbi.2 ⟨_,rfl,?_⟩
 simp only [decide_true,znt,zcf]
 refine zbi.2 ⟨_,f13,?_⟩
 simp only [b0,zct,zgz,zob,c15,zaa,zdt p3,c17,zah,c19,zdt p4']
abbrev Q:=Int×List Int×Bool
section
variable {base : SS} {B b : Nat} {ws : List Nat} {E : List Int}
end
end Go.Proofs.YtcplfckncandkaaGreatDoorE
namespace Go.Proofs.YtcplfckncandkaaGreatDoorE
open Go Go.E Go.Proofs
theorem zzg [Sym] {ws:List Nat} {es:List En} (hnl:∀ e∈es,e.1.length≤1000000) {wv ev tv:Value} {st:SS} (hg:Gd st) (hl:st.lim≤st.next) (hX:∀ X∈ws,X<2^64) (o1:Rg st wv (rowsF uRow ws) 1 ws.length) (o2:Rg st ev (rowsF zaK es) 2 es.length) (steps:List Step5) (hn:steps.length≤1000) (hT:Rg st tv (rowsF stepRow steps) 5 steps.length):
  ∃ s',cc 8 [zbt wv ev,tv] st=some (.bool true,s'):=by
 have hc:(zbt wv ev).cells.toList=[wv,ev]:=by show (Value.agg [wv,ev].toArray).cells.toList=_;exact zaB _
 have x1:Ext st (st.new (.cells [wv,ev] 0)):=(Ext.refl _).new _
 have a1:At (st.new (.cells [wv,ev] 0)) st.next [wv,ev]:=At.new hl _
 have hn1:(st.new (.cells [wv,ev] 0)).next=st.next+1:=rfl
 obtain ⟨s1,hs1⟩:∃ s1,st.new (.cells [wv,ev] 0)=s1:=⟨_,rfl⟩
 rw [hs1] at x1 a1 hn1
 have l2:s1.ldN st.next 0 2=some (zbt wv ev):=a1.ldN rfl
 have hu:=zp8 (hg.ext x1) (x1.ll hl) hX (o1.ext x1) (o2.ext x1)
 cases hq:newT ws es with
 | none=>
   rw [hq] at hu
   obtain ⟨s3,x3,c3⟩:=hu
   have l6:s3.ldN st.next 0 2=some (zbt wv ev):=(a1.ext x3).ldN rfl
   have hr:=ztM hnl (x3.ll (x1.ll hl)) hX ((o1.ext x1).ext x3) ((o2.ext x1).ext x3)
   rw [hq] at hr
   obtain ⟨s7,x7,c7⟩:=hr
   have t0:∀ a b:Value,zao (.tuple #[a,b]) 0=some a:=fun _ _=>rfl
   have t1:∀ a b:Value,zao (.tuple #[a,b]) 1=some b:=fun _ _=>rfl
   have hnil:zjR (.pointer none)=some true:=rfl
   refine ⟨s7,zf9 _ _ st ?_⟩
   simp only [zeS,hc,hs1]
   rw [l2,zob,c3,zob]
   simp only [t0,t1,zob,zaa]
   rw [l6,zob,c7,zob]
   simp only [t0,t1,zob,zah,znf,zct,decide_true,hnil]
 | some E=>
   rw [hq] at hu
   obtain ⟨hE,s3,b,v,x3,c3,hb,a3,o3⟩:=hu
   have l6:s3.ldN st.next 0 2=some (zbt wv ev):=(a1.ext x3).ldN rfl
   have hr:=ztM hnl (x3.ll (x1.ll hl)) hX ((o1.ext x1).ext x3) ((o2.ext x1).ext x3)
   rw [hq] at hr
   obtain ⟨s7,b2,v2,w2,x7,c7,hb2,a7,p7,q7⟩:=hr
   obtain ⟨hw,_,hN,hEn⟩:=zzb hq
   have hb3:=a3.2.1
   have hb7:=a7.2.1
   have a37:=a3.ext x7
   have sq:SqI b2 s7 b ws E (E.getD 0 0) zaG:=⟨v,a37,by omega,(o3.rg).ext x7,fun i l c e=>by
    obtain ⟨_,⟨rfl,_⟩ | ⟨i',rfl,_,_,h1,h2⟩⟩:=o3
    ·cases e
    ·cases e;exact ⟨by omega,by omega⟩⟩
   have mq:MqI s7.next s7 b2 ws E (E.getD 0 0) zaG:=⟨v2,w2,a7,hb7,p7.rg,q7.rg,fun i l c e=>by
    obtain ⟨_,⟨rfl,_⟩ | ⟨i',rfl,_,_,h1,h2⟩⟩:=p7
    ·cases e
    ·cases e;exact ⟨by omega,h2⟩,fun i l c e=>by
    obtain ⟨_,⟨rfl,_⟩ | ⟨i',rfl,_,_,h1,h2⟩⟩:=q7
    ·cases e
    ·cases e;exact ⟨by omega,h2⟩⟩
   have x17:Ext s1 s7:=x3.trans x7
   have two:Two s1 s7.next b b2 ws E (E.getD 0 0) [] s7:=⟨⟨zaG,zaG,sq,mq,Stk.nil,Stk.nil,fun i o l c e=>by cases e⟩,hE,zlr _,a37.2.2,x17,hb,hN⟩
   have hXb:12≤s1.next:=by have:=hg.nx;omega
   have hwl:=(o1.ext x1).len
   obtain ⟨s12,hlp⟩:=zqR hXb hw hEn a1 hwl steps hn tv (hT.ext x1) steps.length 0 _ _ s7 (by omega) two (hEn 0 (by omega)) (fun a ha=>by cases ha) (by simp)
   have hlp':zbp 8 [ptr st.next 0,ptr b 0,ptr b2 0,tv,.int .i64 steps.length,.int .i64 0] s7=some (0,[],s12):=hlp
   have htl:=hT.lenI
   have t0:∀ a b:Value,zao (.tuple #[a,b]) 0=some a:=fun _ _=>rfl
   have t1:∀ a b:Value,zao (.tuple #[a,b]) 1=some b:=fun _ _=>rfl
   have b0:Nat.beq 0 0=true:=rfl
   refine ⟨s12,zf9 _ _ st ?_⟩
   simp only [zeS,hc,hs1]
   rw [l2,zob,c3,zob]
   simp only [t0,t1,zob,zaa]
   rw [l6,zob,c7,zob]
   simp only [t0,t1,zob,zah,znt,zcf,decide_true,htl]
   rw [hlp',zob]
   simp only [b0,zct]
end Go.Proofs.YtcplfckncandkaaGreatDoorE
namespace Go.Proofs.YtcplfckncandkaaGreatDoorE
open Go Go.E Go.Proofs
theorem zzh {t:List UInt8} {ws:List Wd} {es:List (List UInt8×Int)} (h:zfq t=.ok (ws,es)):es.length≤t.length+1∧∀ e∈es,e.1≠[]∧0≤e.2∧e.2<ws.length:=by
 unfold zfq at h
 cases hp:zfP t with
 | error z=>rw [hp] at h;cases h
 | ok xs=>
   rw [hp] at h
   simp only at h
   cases hl:zfp zec xs with
   | error z=>rw [hl] at h;cases h
   | ok l=>
     rw [hl] at h
     obtain ⟨hok,hlen⟩:=zmK hp
     obtain ⟨hL,hen⟩:=zmL xs zec l (zkp _) hok hl
     simp only [zg6] at h
     cases hw:zb5 l.nms (sizeT l) l.wds (List.replicate (sizeT l) zaH) with
     | error z=>rw [hw] at h;cases h
     | ok ws'=>
       rw [hw] at h
       simp only at h
       cases he:zdL l.nms (sizeT l) l.ents with
       | error z=>rw [he] at h;cases h
       | ok es'=>
         rw [he] at h
         cases h
         have key:∀ (xs:List (Val×Nat×Nat)) (es:List (List UInt8×Int)),(∀ e∈xs,e.1.nm≠[])→zdL l.nms (sizeT l) xs=.ok es→es.length=xs.length∧∀ e∈es,e.1≠[]∧0≤e.2∧e.2<sizeT l:=by
          intro xs
          induction xs with
          | nil=>intro es _ h;cases h;exact ⟨rfl,fun e he=>by cases he⟩
          | cons x r ih=>
            intro es hx h
            unfold zdL at h
            split at h
            ·cases h
            ·split at h
             ·cases h
             ·rename_i hc
              split at h
              ·cases h
              ·rename_i es2 h2
               cases h
               obtain ⟨k1,k2⟩:=ih es2 (fun e he=>hx e (by simp [he])) h2
               refine ⟨by simp [k1],fun e he=>?_⟩
               rcases List.mem_cons.1 he with rfl | he
               ·exact ⟨hx x (by simp),by simp only;omega,by simp only;omega⟩
               ·exact k2 e he
         obtain ⟨k1,k2⟩:=key _ _ (fun e he=>(hL.ent e he).1) he
         refine ⟨by rw [k1];simp [zec] at hen;omega,fun e he=>?_⟩
         rw [zfc _ _ _ hw,List.length_replicate]
         exact k2 e he
end Go.Proofs.YtcplfckncandkaaGreatDoorE
namespace Go.Proofs.YtcplfckncandkaaGreatDoorE
open Go Go.E Go.Proofs
theorem zqS {M:Nat} {nms:Nms} {N:Nat}:∀ (xs:List (Nat×PLine)) (ws ws':List Wd),xs.Pairwise (fun a b=>a.1<b.1)→(∀ x∈xs,x.1<N)→ws.length=N→zb5 nms N xs ws=.ok ws'→∀ i,i<N→
  (∃ x∈xs,x.1=i)∧inR N (zbs ((ws'.getD i zaH).getD 8 0) ((ws'.getD i zaH).getD 10 0) i)=false∨(∀ x∈xs,x.1≠i)∧ws'.getD i zaH=ws.getD i zaH
 | [],ws,ws',_,_,_,h,i,_=>by cases h;exact .inr ⟨fun x hx=>(by cases hx),rfl⟩
 | x::r,ws,ws',hp,hN,hl,h,i,hi=>by
   unfold zb5 at h
   rw [List.pairwise_cons] at hp
   split at h
   ·cases h
   ·split at h
    ·cases h
    ·rename_i h1 h2
     have ih:=zqS (M:=M) r _ ws' hp.2 (fun y hy=>hN y (by simp [hy])) (by rw [List.length_set];exact hl) h i hi
     rcases ih with ⟨⟨y,hy,e⟩,h3⟩ | ⟨h3,h4⟩
     ·exact .inl ⟨⟨y,by simp [hy],e⟩,h3⟩
     ·by_cases hx:x.1=i
      ·left
       refine ⟨⟨x,by simp,hx⟩,?_⟩
       have hg:ws'.getD i zaH=(zbk nms zaH x.2.prs).1:=by
        rw [h4,← hx,List.getD_eq_getElem?_getD,List.getElem?_set_self (by rw [hl];exact hN x (by simp))];rfl
       rw [hg,← hx]
       have:¬ inR N (zbs ((zbk nms zaH x.2.prs).1.getD 8 0) ((zbk nms zaH x.2.prs).1.getD 10 0) x.1)=true:=h2
       simpa using this
      ·right
       refine ⟨fun y hy=>?_,?_⟩
       ·rcases List.mem_cons.1 hy with rfl | hy
        ·exact hx
        ·exact h3 y hy
       ·rw [h4,List.getD_eq_getElem?_getD,List.getElem?_set_ne hx,← List.getD_eq_getElem?_getD]
theorem zst (K:Nat):∀ l:List Nat,l.countP (fun a=>decide (a<K+1))=l.countP (fun a=>decide (a<K))+l.countP (fun a=>decide (a=K))
 | []=>rfl
 | a::r=>by
   rw [List.countP_cons,List.countP_cons,List.countP_cons,zst K r]
   by_cases h1:a<K
   ·simp [h1,show a<K+1 by omega,show a≠K by omega];omega
   ·by_cases h2:a=K
    ·subst h2;simp;omega
    ·simp [h1,h2,show ¬ a<K+1 by omega]
def zmx (ws:List Wd) (N K:Nat):Nat:=(List.range K).countP fun i=>decide (zeJ (ws.getD i zaH)=0)&&decide (i+1<N)
theorem zs7 (ws:List Wd) (N K:Nat):zmx ws N (K+1)=zmx ws N K+if zeJ (ws.getD K zaH)=0∧K+1<N then 1 else 0:=by
 unfold zmx
 rw [List.range_succ,List.countP_append,List.countP_singleton]
 congr 1
 by_cases h1:zeJ (ws.getD K zaH)=0<;>by_cases h2:K+1<N<;>simp [h1,h2]
theorem zu6 {ws:List Wd} {N:Nat} {P:List Nat} (h:∀ i,i<N→i∉P→ws.getD i zaH=zaH∧i+1<N):∀ K,K≤N→K≤P.countP (fun a=>decide (a<K))+zmx ws N K:=by
 intro K
 induction K with
 | zero=>intro _;omega
 | succ K ih=>
   intro hK
   have:=ih (by omega)
   rw [zst,zs7]
   by_cases hm:K∈P
   ·have:0<P.countP fun a=>decide (a=K):=List.countP_pos_iff.2 ⟨K,hm,by simp⟩
    omega
   ·obtain ⟨h1,h2⟩:=h K (by omega) hm
    rw [h1,zpd,if_pos ⟨rfl,h2⟩]
    omega
theorem zx9 {l l':Lay} {x:PLine} (h:zcM l x=some l'):l'.wds=l.wds:=by
 unfold zcM at h
 have hdef:∀ {n:List UInt8} {z:Int},l.define n z=some l'→l'.wds=l.wds:=fun hd=>by
  unfold Lay.define at hd
  split at hd
  ·cases hd
  ·cases hd;rfl
 repeat' (split at h)
 all_goals first
  | (cases h;done)
  | (cases h;rfl)
  | exact hdef h
theorem zwS {l l':Lay} {x:PLine} (h:zjq l x=some l'):l'.wds.length≤l.wds.length+if x.prs≠[] then 1 else 0:=by
 rw [zn8] at h
 have hlab:∃ l1,l1.wds=l.wds∧zh5 l1 x=some l':=by
  cases hc:(if x.lab=[] then some l else l.define x.lab l.pl) with
  | none=>rw [hc] at h;cases h
  | some l1=>
    rw [hc] at h
    refine ⟨l1,?_,h⟩
    split at hc
    ·cases hc;rfl
    ·unfold Lay.define at hc
     split at hc
     ·cases hc
     ·cases hc;rfl
 obtain ⟨l1,h2,h3⟩:=hlab
 rw [← h2]
 unfold zh5 at h3
 split at h3
 ·rw [zx9 h3];omega
 ·split at h3
  ·cases h3;omega
  ·rename_i hp
   split at h3
   ·cases h3;simp [hp]
   ·cases h3
def zmy (xs:List PLine):Nat:=xs.countP fun x=>decide (x.prs≠[])
theorem zsu:∀ (xs:List PLine) (l l':Lay),zfp l xs=.ok l'→l'.wds.length≤l.wds.length+zmy xs
 | [],l,l',h=>by cases h;exact zlr _
 | x::r,l,l',h=>by
   unfold zfp at h
   split at h
   ·cases h
   ·rename_i l1 hl1
    have h1:=zwS hl1
    have h2:=zsu r l1 l' h
    have h3:zmy (x::r)=zmy r+if x.prs≠[] then 1 else 0:=by
     unfold zmy
     rw [List.countP_cons]
     by_cases hp:x.prs≠[]<;>simp [hp]
    rw [h3]
    omega
theorem zya {t:List UInt8} {ws:List Wd} {es:List (List UInt8×Int)} (h:zfq t=.ok (ws,es)):∃ xs,zfP t=.ok xs∧xs.length≤t.length+1∧ws.length≤zmy xs+zmx ws ws.length ws.length∧
  ∀ i,i<ws.length→inR ws.length (zbs ((ws.getD i zaH).getD 8 0) ((ws.getD i zaH).getD 10 0) i)=false:=by
 unfold zfq at h
 cases hp:zfP t with
 | error z=>rw [hp] at h;cases h
 | ok xs=>
   rw [hp] at h
   simp only at h
   cases hl:zfp zec xs with
   | error z=>rw [hl] at h;cases h
   | ok l=>
     rw [hl] at h
     obtain ⟨hok,hlen⟩:=zmK hp
     obtain ⟨hL,hen⟩:=zmL xs zec l (zkp _) hok hl
     simp only [zg6] at h
     cases hw:zb5 l.nms (sizeT l) l.wds (List.replicate (sizeT l) zaH) with
     | error z=>rw [hw] at h;cases h
     | ok ws'=>
       rw [hw] at h
       simp only at h
       cases he:zdL l.nms (sizeT l) l.ents with
       | error z=>rw [he] at h;cases h
       | ok es'=>
         rw [he] at h
         cases h
         have hlw:ws.length=sizeT l:=by rw [zfc _ _ _ hw,List.length_replicate]
         have hat:=zqS (M:=t.length+1) l.wds _ ws hL.ris (zlm hL).1 (by simp) hw
         have hun:∀ i,i<sizeT l→i∉l.wds.map (·.1)→ws.getD i zaH=zaH∧i+1<sizeT l:=by
          intro i hi hm
          rcases hat i hi with ⟨⟨x,hx,e⟩,_⟩ | ⟨h1,h2⟩
          ·exact absurd (List.mem_map.2 ⟨x,hx,e⟩) hm
          ·refine ⟨by rw [h2,List.getD_eq_getElem?_getD,List.getElem?_replicate,if_pos hi];rfl,?_⟩
           cases hg:l.wds.getLast? with
           | none=>unfold sizeT at hi;rw [hg] at hi;exact absurd hi (Nat.not_lt_zero i)
           | some y=>
             have hs:sizeT l=y.1+1:=by unfold sizeT;rw [hg]
             have:=h1 y (List.mem_of_getLast? hg)
             omega
         refine ⟨xs,rfl,hlen,?_,fun i hi=>?_⟩
         ·rw [hlw]
          have h1:=zu6 hun (sizeT l) (zlr _)
          have h2:(l.wds.map (·.1)).countP (fun a=>decide (a<sizeT l))≤l.wds.length:=by
           have:=List.countP_le_length (p:=fun a=>decide (a<sizeT l)) (l:=l.wds.map (·.1))
           rwa [List.length_map] at this
          have h3:=zsu xs zec l hl
          have h4:zec.wds.length=0:=rfl
          omega
         ·rw [hlw] at hi ⊢
          rcases hat i hi with ⟨_,h2⟩ | ⟨h1,h2⟩
          ·exact h2
          ·obtain ⟨h3,h4⟩:=hun i hi (fun hm=>by obtain ⟨x,hx,e⟩:=List.mem_map.1 hm;exact h1 x hx e)
           rw [h3]
           have:zbs (zaH.getD 8 0) (zaH.getD 10 0) (i:Int)=[((i:Int)+1,1)]:=rfl
           rw [this]
           simp only [inR,List.any_cons,List.any_nil,Bool.or_false,decide_eq_false_iff_not]
           omega
end Go.Proofs.YtcplfckncandkaaGreatDoorE
namespace Go.Proofs.YtcplfckncandkaaGreatDoorE
set_option maxRecDepth 100000
open Go Go.E Go.Proofs
theorem zyb {t:List UInt8} {ws:List Wd} {es:List En} (h:zfq t=.ok (ws,es)):zdr (toU ws)=true:=by
 obtain ⟨hwd,hwl⟩:=zmN h
 obtain ⟨_,_,_,_,hin⟩:=zya h
 refine List.all_eq_true.2 fun i hi=>?_
 have hi':i<ws.length:=by rw [List.mem_range,zkv] at hi;exact hi
 obtain ⟨w,hw⟩:∃ w,ws[i]?=some w:=⟨_,zge hi'⟩
 have hd:ws.getD i zaH=w:=by rw [List.getD_eq_getElem?_getD,hw];rfl
 have ho:=hwd w (zmg hw)
 obtain ⟨X,hX⟩:=zmt ho
 have hu:=(zsg ho hX).1
 have hg:(toU ws)[i]?=some X:=by unfold toU;rw [List.getElem?_map,hw,Option.map_some,hX,Int.toNat_natCast]
 rw [hg]
 have part:∀ k,k<12→((zaq X k:Nat):Int)=w.getD k 0:=fun k hk=>by
  have h1:=zmO X hk
  rw [hu] at h1
  rw [List.getD_eq_getElem?_getD,h1];rfl
 show okW (toU ws).length X i=true
 have h2:=hin i hi'
 rw [hd] at h2
 unfold okW zdI
 rw [part 8 (by omega),part 10 (by omega),zkv]
 refine List.all_eq_true.2 fun p hp=>?_
 have h3:=List.any_eq_false.1 h2 p hp
 cases hq:decide ((ws.length:Int)<p.1+p.2) with
 | false=>rfl
 | true=>exact absurd hq h3
theorem zyc {t:List UInt8} {ws:List Wd} {es:List En} (h:zfq t=.ok (ws,es)) (hn:es.map (·.1)=zbc):∃ E,newT (toU ws) es=some E:=by
 obtain ⟨hwd,hwl⟩:=zmN h
 obtain ⟨_,hee⟩:=zzh h
 have hlen:es.length=5:=by have:=congrArg List.length hn;rw [List.length_map] at this;exact this
 have hG:∀ l∈zbc,zhZ l=true:=by decide
 have hD:∀ i∈List.range 5,∀ l,zbc[i]?=some l→l∉zbc.take i:=by decide
 have hr:zdp (toU ws).length es=true:=by
  unfold zdp
  rw [zkv]
  simp only [zae,Nat.ble_eq]
  refine ⟨hwl,by omega,List.all_eq_true.2 fun i hi=>?_⟩
  obtain ⟨e,he⟩:∃ e,es[i]?=some e:=⟨_,zge (List.mem_range.1 hi)⟩
  have hi5:i<5:=by have:=List.mem_range.1 hi;omega
  have hm:=zmg he
  have hat:zbc[i]?=some e.1:=by rw [← hn,List.getElem?_map,he];rfl
  obtain ⟨_,h0,h1⟩:=hee e hm
  rw [zfK he]
  have q1:=hG e.1 (zmg hat)
  have q2:decide (e.2<0)=false:=zdf (by omega)
  have q3:decide ((ws.length:Int)≤e.2)=false:=zdf (by omega)
  have q4:decide (e.1∈(es.take i).map (·.1))=false:=zdf (by
   rw [List.map_take,hn]
   exact hD i (List.mem_range.2 hi5) e.1 hat)
  rw [q1,q2,q3,q4];rfl
 unfold newT
 rw [hr,zyb h]
 show ∃ E,zef es zbc=some E
 have key:∀ (l:List (List UInt8)),(∀ n∈l,n∈es.map (·.1))→∃ E,zef es l=some E:=by
  intro l
  induction l with
  | nil=>exact fun _=>⟨[],rfl⟩
  | cons n r ih=>
    intro hl
    obtain ⟨E,hE⟩:=ih fun m hm=>hl m (by simp [hm])
    have hf:∀ (q:List En),n∈q.map (·.1)→∃ x,zdN q n=some x:=by
     intro q
     induction q with
     | nil=>intro h;cases h
     | cons e q ihq=>
       intro h
       unfold zdN
       by_cases he:e.1=n
       ·exact ⟨e.2,by rw [if_pos he]⟩
       ·rw [if_neg he]
        refine ihq ?_
        rw [List.map_cons] at h
        rcases List.mem_cons.1 h with h | h
        ·exact absurd h.symm he
        ·exact h
    obtain ⟨x,hx⟩:=hf es (hl n (by simp))
    exact ⟨x::E,by unfold zef;rw [hx];simp only;rw [hE]⟩
 exact key zbc fun n hm=>by rw [hn];exact hm
theorem zzi:∃ ws es E,zfq zmu=.ok (ws,es)∧(∀ w∈ws,ziQ w)∧newT (toU ws) es=some E∧∀ e∈es,e.1.length≤1000000:=by
 obtain ⟨ws,es,h1,h2,h3⟩:=zy6
 obtain ⟨E,hE⟩:=zyc h1 h3
 refine ⟨ws,es,E,h1,(zmN h1).1,hE,fun e he=>?_⟩
 have hm:e.1∈zbc:=by rw [show zbc=zoa from rfl,← h3];exact List.mem_map_of_mem he
 have:∀ n∈zbc,n.length≤1000000:=by decide
 exact this _ hm
end Go.Proofs.YtcplfckncandkaaGreatDoorE
namespace Go.Proofs.YtcplfckncandkaaGreatDoorE
open Go Go.E Go.Proofs
theorem arg_row {H:Type} {enc:TypeId×Value→H} {P:Program} {W:World} {spare:Nat→Bool} {held:Bool} {α:Type} {f:α→List Value} {ok:α→Prop} {t e d:Nat} {ks:List CK} {v:Value} {dd:DataW H} {p:List MemPlace} (id g:Nat) (hg:∃ arr T fr,W.heap[g]?=some (.cells arr T fr)) (ht:P.underlying t=some (.slice e)) (hk:ziu P d e=some ks) (hc:P.cellsOf e=ks.length) (hz:0<ks.length)
  (hty:∀ r,Cks ks r→∃ s,r=f s∧ok s) (hfl:∀ s,(f s).all zbx=true) (hval:Value.okWide P W .any 0 t v) (h:DataW.Trod enc P W 0 spare held t v dd p):
  ∃ (l:List α) (av:Value) (pl:Pl),(∀ s∈l,ok s)∧Tv id l.length av∧(∃ obj,W.heap[pl.b]?=some obj∧∀ [Sym] (β:Emb),OR β pl obj (.table (l.flatMap f)))∧∀ [Sym] (β:Emb),β id=some pl→VR β av v:=by
 obtain ⟨l,h1,h2⟩:=zvG (f:=f) ht hk hc hz hty hval h
 have hf:∀ x∈l.flatMap f,zbx x=true:=fun x hx=>by
  obtain ⟨s,_,hs⟩:=List.mem_flatMap.1 hx
  exact List.all_eq_true.1 (hfl s) x hs
 rcases h2 with ⟨rfl,rfl⟩ | ⟨b,off,cap,rfl,h3,h4,arr,T,fr,hh,h5⟩
 ·obtain ⟨arr,T,fr,hh⟩:=hg
  exact ⟨[],.slice none 0 0,⟨g,0,0,0⟩,h1,.inl ⟨rfl,rfl⟩,⟨_,hh,fun β=>⟨rfl,arr,T,fr,rfl,fun j x hx=>by cases hx⟩⟩,fun β _=>.slice0⟩
 ·refine ⟨l,.slice (some ⟨id,0,none⟩) l.length cap,⟨b,off,0,0⟩,h1,.inr ⟨cap,rfl,h3,h4⟩,⟨_,hh,fun β=>⟨rfl,arr,T,fr,rfl,fun j x hx=>⟨x,h5 j x hx,zcT (hf x (zmg hx))⟩⟩⟩,fun β hb=>?_⟩
  exact .slice (p:=⟨b,off,0,0⟩) hb h3 (zlr _) (.inr rfl) (.inl rfl)
abbrev W12:={ w:List Int//w.length=12 }
def row12 (w:W12):List Value:=w.1.map (.int .i64)
theorem flat_i (w:W12):(row12 w).all zbx=true:=by
 rw [List.all_eq_true]
 intro x hx
 obtain ⟨n,_,rfl⟩:=List.mem_map.1 hx
 rfl
noncomputable def stP (C:List Value):SS:=⟨zey ((12,.table C)::zeZ),12+1,12+1⟩
theorem zwT (C:List Value):stP C=(st0.new (.table C)).ro (12+1):=rfl
theorem gdP (C:List Value):Gd (stP C):=by
 rw [zwT]
 exact (gd0.ext ((Ext.refl st0).new _)).ro
theorem stP_F (C:List Value):(stP C).mem.get 12=some (.table C):=by
 rw [zwT]
 exact SS.new_get (st:=st0)
def plP (p:Pl):Nat→Pl:=fun i=>if i=12 then p else ⟨i,0,0,0⟩
theorem err_cells {W:World} {laid:List (String×DataW Unit)} (h:laidMet Tryz.prog laid W) (h4:∃ nm d,("strconv.ErrSyntax",DataW.iface nm d)∈laid):∃ arr T fr,W.heap[5]?=some (.cells arr T fr):=by
 obtain ⟨nm4,d4,m4⟩:=h4
 obtain ⟨a4,u4,c4⟩:=zkQ h m4 (g:=5) (t:=167) (by kernel_rfl) (by kernel_rfl) Tryz.underlying167
 unfold World.cell? at c4
 simp only at c4
 split at c4
 ·rename_i arr T fr hh;exact ⟨_,_,_,hh⟩
 all_goals cases c4
theorem law_at1 {f:Nat} {fn:Func} (hf:Lk0.func f=some (f,fn)) {W:World} {laid:List (String×DataW Unit)} (h:laidMet Tryz.prog laid W) (h4:∃ nm d,("strconv.ErrSyntax",DataW.iface nm d)∈laid) (h5:∃ nm d,("strconv.ErrRange",DataW.iface nm d)∈laid)
  (hF:("camshaft/uword.fields",laidF)∈laid) (hS:("strings.asciiSpace",laidS)∈laid)
  {C:List Value} {p:Pl} (oC:∃ obj,W.heap[p.b]?=some obj∧∀ [Sym] (β:Emb),OR β p obj (.table C))
  {args args':List Value} (hargs:∀ [Sym] (β:Emb),β 12=some p→VRs β args args') (hlaw:∀ [Sym],∃ st',cc f args (stP C)=some (.bool true,st')):
  Calls Tryz.prog f args'.toArray W fun e W'=>e=.returned (.bool true)∧RowKit.Below W.heap.size W W':=by
 obtain ⟨nm4,d4,m4⟩:=h4
 obtain ⟨nm5,d5,m5⟩:=h5
 obtain ⟨a4,u4,c4⟩:=zkQ h m4 (g:=5) (t:=167) (by kernel_rfl) (by kernel_rfl) Tryz.underlying167
 obtain ⟨a5,u5,c5⟩:=zkQ h m5 (g:=6) (t:=167) (by kernel_rfl) (by kernel_rfl) Tryz.underlying167
 letI:Sym:=symE a4 u4 a5 u5
 have hE:ErrSym:=⟨⟨a4,u4,rfl⟩,⟨a5,u5,rfl⟩⟩
 obtain ⟨oF,f1,f2⟩:=ztX h hF (g:=0) (kk:=.i64) (by kernel_rfl) (by kernel_rfl) Tryz.underlying123 Tryz.underlying122 (by kernel_rfl) rfl rfl rfl Tryz.underlying9 Tryz.underlying3 rfl rfl (by kernel_rfl) (by kernel_rfl) _ (by simp [zb0]) rfl
 obtain ⟨oS,s1,s2⟩:=zvl h hS (g:=2) (kk:=.u8) (by kernel_rfl) (by kernel_rfl) Tryz.underlying187 Tryz.underlying5 (by kernel_rfl) _ rfl
 obtain ⟨st',hl⟩:=hlaw
 have hX:(plP p) 12=p:=by unfold plP;rw [if_pos rfl]
 have hO:∀ x∈zeZ,(plP p) x.1=⟨x.1,0,0,0⟩:=fun x hx=>by
  have:=zuY x hx
  unfold plP;rw [if_neg (by omega)]
 have b1:embB ((12,.table C)::zeZ) (plP p) 12=some p:=by rw [ztl (by simp),hX]
 have hT:∀ x∈zeZ,∃ obj,W.heap[((plP p) x.1).b]?=some obj∧OR (embB ((12,.table C)::zeZ) (plP p)) ((plP p) x.1) obj x.2:=fun x hx=>by
  rw [hO x hx]
  simp only [zeZ,List.mem_cons,List.not_mem_nil,or_false] at hx
  rcases hx with rfl | rfl | rfl | rfl
  ·exact zvF (i:=5) c4
  ·exact zvF (i:=6) c5
  ·exact ⟨oF,f1,f2 _⟩
  ·exact ⟨oS,s1,s2 _⟩
 refine zyv zai (zyx hE) hf (l:=(12,.table C)::zeZ) (nx:=12+1) (pl:=plP p) hl rfl (hargs _ b1) (fun x hx=>?_) (fun x hx=>?_) (fun g hg=>?_) (fun x hx=>?_)
 ·rcases List.mem_cons.1 hx with rfl | hx
  ·simp only [hX];exact ⟨oC.choose,oC.choose_spec.1,oC.choose_spec.2 _⟩
  ·exact hT x hx
 ·rcases List.mem_cons.1 hx with rfl | hx
  ·exact ⟨_,rfl⟩
  ·simp only [zeZ,List.mem_cons,List.not_mem_nil,or_false] at hx
   rcases hx with rfl | rfl | rfl | rfl<;>exact ⟨_,rfl⟩
 ·have hm:=zwH g hg
  obtain ⟨x,hx,rfl⟩:=List.mem_map.1 hm
  refine ⟨by rw [List.map_cons];exact List.mem_cons_of_mem _ hm,by rw [hO x hx],by rw [hO x hx]⟩
 ·rcases List.mem_cons.1 hx with rfl | hx
  ·show 12<12+1;omega
  ·have:=zuY x hx;omega
end Go.Proofs.YtcplfckncandkaaGreatDoorE
namespace Go.Proofs.YtcplfckncandkaaGreatDoorE
open Go Go.E Go.Proofs Go.ChangeShapes
theorem stepRow_flat (x:Step5):(stepRow x).all zbx=true:=rfl
theorem step_ty (r:List Value) (h:Cks [.b,.i .i64,.b,.i .i64,.i .i64] r):∃ s,r=stepRow s∧True:=by
 cases r with
 | nil=>exact h.elim
 | cons x r=>
 obtain ⟨⟨b1,h1⟩,h⟩:=h
 cases r with
 | nil=>exact h.elim
 | cons x r=>
 obtain ⟨⟨n2,h2,_⟩,h⟩:=h
 cases r with
 | nil=>exact h.elim
 | cons x r=>
 obtain ⟨⟨b3,h3⟩,h⟩:=h
 cases r with
 | nil=>exact h.elim
 | cons x r=>
 obtain ⟨⟨n4,h4,_⟩,h⟩:=h
 cases r with
 | nil=>exact h.elim
 | cons x r=>
 obtain ⟨⟨n5,h5,_⟩,h⟩:=h
 cases r with
 | cons z r=>exact h.elim
 | nil=>exact ⟨⟨b1,n2,b3,n4,n5⟩,by unfold stepRow;rw [h1,h2,h3,h4,h5],trivial⟩
end Go.Proofs.YtcplfckncandkaaGreatDoorE
namespace Go.Proofs.YtcplfckncandkaaGreatDoorE
open Go Go.E Go.Proofs
theorem zzj [Sym] {st:SS} (hg:Gd st) (hl:st.lim≤st.next):∃ (ws:List Nat) (es:List En) (E:List Int) (s4 s8:SS) (wv ev:Value),cc 9 [] st=some (.tuple #[zbt wv ev,.int .i64 0],s4)∧
  (s4.new (.cells [.slice none 0 0,.slice none 0 0] 0)).stV s4.next 0 2 (zbt wv ev)=some s8∧Ext st s8∧At s8 s4.next [wv,ev]∧(∀ X∈ws,X<2^64)∧Rg s8 wv (rowsF uRow ws) 1 ws.length∧Rg s8 ev (rowsF zaK es) 2 es.length∧newT ws es=some E∧∀ e∈es,e.1.length≤1000000:=by
 obtain ⟨ws,es,E,ha,hwd,hq,hnm⟩:=zzi
 obtain ⟨s4,wv,ev,c4,x4,o1,o2⟩:=zy7 ⟨zqK,zwG⟩ ha hg hl
 obtain ⟨s8,e8,a8,x8,n8⟩:=zaR (n:=2) (st:=s4) (x4.ll hl) (r:=NN) (row:=[wv,ev]) (v:=zbt wv ev) rfl rfl (by simp [(Own.cell o1).2,(Own.cell o2).2]) rfl
 have o1':Rg s8 wv (rowsF uRow (toU ws)) 1 (toU ws).length:=by rw [← pk_u hwd,zkv];exact (o1.ext x8).rg
 exact ⟨toU ws,es,E,s4,s8,wv,ev,c4,e8,x4.trans x8,a8,zwO hwd,o1',(o2.ext x8).rg,hq,hnm⟩
theorem zsv [Sym] {st:SS} (hg:Gd st) (hl:st.lim≤st.next) (steps:List Step5) {tv:Value} (hT:Rg st tv (rowsF stepRow steps) 5 steps.length):∃ s',cc 4 [tv] st=some (.bool true,s'):=by
 obtain ⟨n,hn,c1⟩:=zzf st hg
 have x1:Ext st (st.adv n):=(Ext.refl _).adv hn
 have q3:=hT.lenI
 have early:∀ z,zci cc zeg tv st=some (.bool true,z)→∃ s',cc 4 [tv] st=some (.bool true,s'):=fun z h=>⟨z,zhx _ st h⟩
 by_cases h2:(200:Int)<(steps.length:Int)
 ·refine early (st.adv n) ?_
  simp only [zci]
  rw [c1,zob]
  simp only [zob,zah,znt,zcf,q3,zdt h2,zct]
 obtain ⟨ws,es,E,s4,s8,wv,ev,c4,e8,x8,a8,hX,o1,o2,hq,hnm⟩:=zzj (hg.ext x1) (x1.ll hl)
 have hx8:=x1.trans x8
 have hn':=zp8 (hg.ext hx8) (hx8.ll hl) hX o1 o2
 rw [hq] at hn'
 obtain ⟨hE,s10,b,v,x10,c10,hb,a10,o10⟩:=hn'
 have hx10:=hx8.trans x10
 have c13:=(Sq.ofNew hE (zoi hq).1 x10 hb a10 o10).depth
 have l9:s8.ldN s4.next 0 2=some (zbt wv ev):=a8.ldN rfl
 have l15:s10.ldN s4.next 0 2=some (zbt wv ev):=(a8.ext x10).ldN rfl
 obtain ⟨s16,c16⟩:=zzg hnm (hg.ext hx10) (hx10.ll hl) hX (o1.ext x10) (o2.ext x10) steps (by omega) (hT.ext hx10)
 have t0:∀ a b:Value,zao (.tuple #[a,b]) 0=some a:=fun _ _=>rfl
 have t1:∀ a b:Value,zao (.tuple #[a,b]) 1=some b:=fun _ _=>rfl
 have d0:decide ((([]:List Int).length:Int)=0)=true:=rfl
 refine early s16 ?_
 simp only [zci]
 rw [c1,zob]
 simp only [zob,zah,znt,zcf,q3,zdf h2]
 rw [c4,zob]
 simp only [t0,t1,zob,zaa]
 rw [e8,zob,l9,zob,c10,zob]
 simp only [t0,t1,zob,zaa,decide_true,zct]
 rw [c13,zob]
 simp only [zob,zaa,d0,zct]
 rw [l15,zob,c16,zob]
 rfl
theorem useqShips_ok [Sym] {C:List Value} (hg:Gd (stP C)) (hll:(stP C).lim≤(stP C).next) (steps:List Step5) (tv:Value) (hT:Rg (stP C) tv (rowsF stepRow steps) 5 steps.length):∃ s',cc 4 [tv] (stP C)=some (.bool true,s'):=
 zsv hg hll steps hT
end Go.Proofs.YtcplfckncandkaaGreatDoorE
