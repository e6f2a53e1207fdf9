/- Parts of the proof of DpathUndo, packed by a program: an evaluator over the given code, functions as plain texts, their laws. -/
import Derived.Test.YtlpigjmjgclgiaaDoorPUC
set_option linter.unusedVariables false
set_option linter.unusedSimpArgs false
namespace Go.Proofs.YtlpigjmjgclgiaaDoorE
set_option maxRecDepth 100000
open Go Go.E Go.Proofs
def byR (x:Int):List Value:=[.int .u8 x]
structure Pb (B:Nat) (st:SS) (b c:Nat) (m:PM) (f:FM) (l:List Int):Prop where
 tw:Tw st b c m f
 sl:SL B st 1 m.buf (rowsF byR l) l.length
 bB:b<B
 cB:c<B
 hB:B≤st.next
 lB:st.lim≤B
 len:l.length≤256
def NoB (v:Value) (i:Nat):Prop:=∀ o l q,v≠.slice (some ⟨i,o,none⟩) l q
def Nwr (n:Nat) (v w:Value):Prop:=∀ i o l q,w=.slice (some ⟨i,o,none⟩) l q→n≤i∨¬ NoB v i
section
variable {B : Nat} {st st' s1 s2 : SS} {b c n : Nat} {m m' : PM} {f f' : FM} {l : List Int} {S : List Nat} {u v w : Value}
theorem Frm.refl (s:SS):Frm B S v s s:=⟨zlr _,rfl,fun _ _ _ _=>rfl⟩
theorem Frm.ofMod (h:Mod S st st'):Frm B S v st st':=⟨h.next,h.lim,fun i hi hS _=>h.keep i hi hS⟩
theorem Frm.ofExt (h:Ext st st'):Frm B S v st st':=.ofMod (.ofExt h)
theorem Nwr.refl (n:Nat) (v:Value):Nwr n v v:=fun i o l q e=>.inr fun h=>h o l q e
theorem Nwr.trans (h:Nwr n u v) (k:Nwr s1.next v w) (hn:n≤s1.next):Nwr n u w:=fun i o l q e=>by
 rcases k i o l q e with h1 | h1
 ·exact .inl (by omega)
 ·by_cases hb:n≤i
  ·exact .inl hb
  ·refine .inr fun hu=>h1 fun o' l' q' e'=>?_
   rcases h i o' l' q' e' with h2 | h2
   ·exact hb h2
   ·exact h2 hu
theorem Frm.then (h:Frm B S u st s1) (k:Frm B S v s1 s2) (hv:Nwr st.next u v):Frm B S u st s2:=
 ⟨zlt h.next k.next,k.lim.trans h.lim,fun i hi hS hu=>(k.keep i (zll hi h.next) hS fun o q r e=>by
  rcases hv i o q r e with h1 | h1
  ·omega
  ·exact h1 hu).trans (h.keep i hi hS hu)⟩
theorem Frm.at' {row:List Value} {i:Nat} (h:Frm B S v st st') (a:At st i row) (hS:i∉S) (hv:NoB v i):At st' i row:=
 ⟨(h.keep i a.lt hS hv).trans a.1,zll a.lt h.next,by rw [h.lim];exact a.2.2⟩
theorem Frm.keepB (h:Frm B S v st st') (hB:B≤st.next) (hv:∀ i,i<B→NoB v i):Keep B S st st':=⟨h.next,h.lim,fun i hi hS=>h.keep i (by omega) hS (hv i hi)⟩
theorem SL.noB {z:Nat} {c:List Value} (h:SL B st z v c n) {i:Nat} (hi:i<B∨st.next≤i):NoB v i:=fun o l q e=>by have:=h.blk i o l q e;omega
theorem Pb.ext (h:Pb B st b c m f l) (k:Ext st st'):Pb B st' b c m f l:=⟨h.tw.ext k,h.sl.ext k,h.bB,h.cB,zlt h.hB k.next,by rw [k.lim];exact h.lB,h.len⟩
theorem Pb.adv (h:Pb B st b c m f l) {n:Nat} (hn:st.next≤n):Pb B (st.adv n) b c m f l:=h.ext (Ext.advR st hn)
theorem Pb.tw' (h:Pb B st b c m f l) (t:Tw st' b c m' f') (k:Mod [b,c] st st') (e:m'.buf=m.buf):Pb B st' b c m' f' l:=
 ⟨t,by rw [e];exact h.sl.mod k (by intro j hj;simp at hj;have:=h.bB;have:=h.cB;omega),h.bB,h.cB,zlt h.hB k.next,by rw [k.lim];exact h.lB,h.len⟩
theorem Tw.wV (h:Tw st b c m f) {k:Nat} {x:Value} (m':PM) (hk:k<88) (hc:x.cells.toList=[x]) (h1:one x=true) (e:m.rw.set k x=m'.rw) (hf:m'.fp=m.fp):∃ st',st.stV b k 1 x=some st'∧Tw st' b c m' f∧Mod [b,c] st st'∧st'.next=st.next:=by
 obtain ⟨s,e,a,k,n⟩:=h.p.wV (row':=m'.rw) (by rw [m.len];exact hk) hc h1 e
 exact ⟨s,e,h.modB a k hf,inB k,n⟩
theorem Pb.ldB (h:Pb B st b c m f l):st.ld b (0+77)=some m.buf:=by rw [h.tw.rw.ld];exact m.g77
theorem zpb (l:List Int) (x:Int):rowsF byR (l++[x])=rowsF byR l++byR x:=by rw [zih,zlX]
theorem znv (h:Pb B st b c m f l) (hl:l.length<256) (x:Int):
  ∃ v s1 s2,(st.new (.cells [.int .u8 x] 1)).app 1 1 m.buf (.slice (some ⟨st.next,0,none⟩) 1 1)=some (v,s1)∧s1.stV b (0+77) 1 v=some s2∧Pb B s2 b c { m with buf:=v } f (l++[x])∧Frm B [b,c] m.buf st s2∧Nwr st.next m.buf v:=by
 obtain ⟨s1,e1,n1,l1,q1,k1⟩:=h.sl.push (row:=byR x) (by':=1) h.hB h.lB rfl (by omega) rfl (by omega) (by omega)
 have hbn:NoB m.buf b:=SL.noB h.sl (.inl h.bB)
 have hcn:NoB m.buf c:=SL.noB h.sl (.inl h.cB)
 have t1:Tw s1 b c m f:=⟨⟨(k1 b h.tw.p.lt hbn).trans h.tw.p.1,by have:=h.tw.p.lt;omega,by rw [l1];exact h.tw.p.2.2⟩,⟨(k1 c h.tw.f.lt hcn).trans h.tw.f.1,by have:=h.tw.f.lt;omega,by rw [l1];exact h.tw.f.2.2⟩,h.tw.fp,h.tw.ne,by have:=h.tw.ll;omega⟩
 obtain ⟨s2,e2,t2,k2,n2⟩:=t1.wV (k:=0+77) (x:=.slice (some ⟨st.next+1,0,none⟩) (l.length+1) (l.length+1)) _ (by omega) rfl rfl (PM.s77 _ _) rfl
 have q2:=q1.mod k2 (by intro j hj;simp at hj;have:=h.bB;have:=h.cB;omega)
 refine ⟨_,s1,s2,e1,e2,⟨t2,?_,h.bB,h.cB,by have:=h.hB;omega,by rw [k2.lim,l1];exact h.lB,by simp;omega⟩,⟨by omega,by rw [k2.lim,l1],fun i hi hS hk=>(k2.keep i (by omega) hS).trans (k1 i hi hk)⟩,fun i o q r e=>by cases e;exact .inl (by omega)⟩
 rw [zpb,List.length_append];exact q2
theorem znw [Sym]:∀ (k i:Nat) (st:SS) (m:PM) (l:List Int),Pb B st b c m f l→i+k≤1000000→
  ∃ st' v,zaE 5 [ptr b 0,.int .i64 ((i+k:Nat):Int),.int .i64 (i:Int)] st=some (0,[],st')∧Pb B st' b c { m with buf:=v } f (pushes l (m.r 36) i k)∧Frm B [b,c] m.buf st st'∧Nwr st.next m.buf v
 | 0,i,st,m,l,h,hb=>by
   refine ⟨st,m.buf,zb0 _ _ _ st ?_,h,.refl _,.refl _ _⟩
   unfold zbO
   rw [zdf (show ¬ ((i:Int)<((i+0:Nat):Int)) by omega)];rfl
 | k+1,i,st,m,l,h,hb=>by
   have hlen:=h.sl.lenI
   have c1:decide ((i:Int)<((i+(k+1):Nat):Int))=true:=zdt (by omega)
   have w1:IntKind.wrap .i64 ((i:Int)+1)=((i+1:Nat):Int):=by rw [wrap64 (by omega) (by omega)];omega
   have w8:(0:Int)≤IntKind.wrap .i64 (8*(i:Int)):=by rw [wrap64 (by omega) (by omega)];omega
   by_cases hl:l.length<256
   ·obtain ⟨v,s1,s2,e1,e2,p2,f2,n2⟩:=znv h hl (zkV (m.r 36) (i:Int))
    obtain ⟨s3,v3,e3,p3,f3,n3⟩:=znw k (i+1) s2 { m with buf:=v } _ p2 (by omega)
    refine ⟨s3,v3,zb0 _ _ _ st ?_,?_,f2.then f3 n2,n2.trans n3 f2.next⟩
    ·unfold zbO
     rw [c1]
     simp only [zct,zad,zaa,zob]
     refine bs h.ldB (bs hlen ?_)
     rw [zdt (by omega),zct]
     refine bs h.ldB (bs (zaF (n:=36) (by omega)) (bs (h.tw.rw.ldR (by omega)) ?_))
     refine bs (show (aI .shr .u32 (m.r 36) (IntKind.wrap .i64 (8*(i:Int)))).bind (asI .u32)=some _ from by rw [zfA w8];rfl) ?_
     refine bs e1 (bs e2 ?_)
     rw [w1,show i+(k+1)=i+1+k by omega]
     exact e3
    ·have:pushes l (m.r 36) i (k+1)=pushes (l++[zkV (m.r 36) (i:Int)]) (m.r 36) (i+1) k:=by
      show pushes (pushB l (zkV (m.r 36) i)) (m.r 36) (i+1) k=_
      unfold pushB;rw [if_pos hl]
     rw [this];exact p3
   ·obtain ⟨s3,v3,e3,p3,f3,n3⟩:=znw k (i+1) st m l h (by omega)
    refine ⟨s3,v3,zb0 _ _ _ st ?_,?_,f3,n3⟩
    ·unfold zbO
     rw [c1]
     simp only [zct,zad,zaa,zob]
     refine bs h.ldB (bs hlen ?_)
     rw [zdf (by omega),zcf]
     rw [w1,show i+(k+1)=i+1+k by omega]
     exact e3
    ·have:pushes l (m.r 36) i (k+1)=pushes l (m.r 36) (i+1) k:=by
      show pushes (pushB l (zkV (m.r 36) i)) (m.r 36) (i+1) k=_
      unfold pushB;rw [if_neg hl]
     rw [this];exact p3
theorem zcG:∀ l:List Int,rowsF byR l=l.map (Value.int .u8)
 | []=>rfl
 | a::r=>by
   have ih:=zcG r
   show byR a++rowsF byR r=_
   rw [ih];rfl
theorem zgN (l:List Int) (j:Nat) {x:Int} (hx:l[j]?=some x):((rowsF byR l).drop (j*1)).take 1=[.int .u8 x]:=by
 have hlt:=(List.getElem?_eq_some_iff.1 hx).1
 rw [zcG,Nat.mul_one,← List.map_drop,List.drop_eq_getElem_cons hlt]
 have:=(List.getElem?_eq_some_iff.1 hx).2
 rw [this];rfl
theorem zkW [Sym] {v:Value} {z:List Int} (hs:SL B st 1 v (rowsF byR z) z.length) (hz:z.length≤1000000) (n:Int):∀ (k i:Nat) (x:Int),i+k=z.length→
  zaE 14 [ptr b 0,.int .i64 n,.int .u32 x,v,.int .i64 (z.length:Int),.int .i64 (i:Int)] st=some (0,[ptr b 0,.int .i64 n,.int .u32 (sumT (z.drop i) i x)],st)
 | 0,i,x,h=>by
   refine zcT _ _ _ _ _ _ st ?_
   unfold zcn
   rw [zdf (by omega),List.drop_of_length_le (by omega)];rfl
 | k+1,i,x,h=>by
   have hlt:i<z.length:=by omega
   obtain ⟨p,e1,_,e2⟩:=hs.load hlt
   have ih:=zkW hs hz n k (i+1) (orI .u32 x (zbZ .u32 (IntKind.wrap .u32 z[i]) (IntKind.wrap .i64 (8*(i:Int))))) (by omega)
   have l1:(st.ld p.1 p.2).bind (asI .u8)=some z[i]:=by
    have:=e2 0 (.int .u8 z[i]) (by rw [zgN z i (zge hlt)];rfl)
    rw [Nat.add_zero] at this
    rw [this];rfl
   refine zcT _ _ _ _ _ _ st ?_
   unfold zcn
   rw [zdt (by omega),zct]
   refine bs e1 (bs l1 ?_)
   refine bs (show (aI .shl .u32 (IntKind.wrap .u32 z[i]) (IntKind.wrap .i64 (8*(i:Int)))).bind (asI .u32)=some _ from by rw [zda (by rw [wrap64 (by omega) (by omega)];omega)];rfl) ?_
   simp only
   rw [show IntKind.wrap .i64 ((i:Int)+1)=((i+1:Nat):Int) by rw [wrap64 (by omega) (by omega)];omega,List.drop_eq_getElem_cons hlt]
   exact ih
end
end Go.Proofs.YtlpigjmjgclgiaaDoorE
namespace Go.Proofs.YtlpigjmjgclgiaaDoorE
set_option maxRecDepth 100000
open Go Go.E Go.Proofs
def outT (l:List Int) (n:Nat):Int:=sumT (l.take (min n l.length)) 0 0
def zeK (m:PM) (l:List Int) (M:Int) (n:Nat):PM:=if M=7 then { m with r:=up m.r 36 (outT l n) } else m
def zdg (m:PM) (l:List Int) (M:Int) (n:Nat):List Int:=if M=6 then pushes l (m.r 36) 0 n else if M=7 then l.drop (min n l.length) else if M=8 then [] else l
section
variable {B : Nat} {st st' s1 s2 : SS} {b c n : Nat} {m m' : PM} {f f' : FM} {l : List Int} {S : List Nat} {u v w : Value}
theorem zqM {z:Nat} {C:List Value} (h:SL B st z v C n) (hb:b<B) (k:Nat):zcK v (ptr b k)=true:=by
 obtain ⟨_,⟨rfl,_⟩ | ⟨j,o,cap,C,rfl,_,_,_,_,h5,_⟩⟩:=h
 ·rfl
 ·show (!Nat.beq j b)=true
  rw [zan,zdf (by omega)];rfl
theorem zlu (l:List Int) (k:Nat):(rowsF byR l).drop (k*1)=rowsF byR (l.drop k):=by
 rw [zcG,zcG,Nat.mul_one,List.map_drop]
theorem znx (l:List Int) (k:Nat):(rowsF byR l).take (k*1)=rowsF byR (l.take k):=by
 rw [zcG,zcG,Nat.mul_one,List.map_take]
theorem zmc (l:List Int):(rowsF byR l).length=l.length:=by rw [zcG,List.length_map]
structure Wd (wv:Value) (w:List Value) (S M:Int):Prop where
 c:wv.cells.toList=w
 s:w[5]?=some (.int .i64 S)
 m:w[7]?=some (.int .i64 M)
theorem zqN [Sym] (h:Pb B st b c m f l) {wv:Value} {w:List Value} {Sz M:Int} (hw:Wd wv w Sz M) (h0:0≤Sz) (hn:sizeT m Sz=(n:Int)) (hn6:n≤1000000) (hM:M≠12∧M≠13∧M≠14) (a:Int):
  ∃ st' v,cc 26 [ptr b 0,wv,.int .u32 a] st=some (.tuple #[],st')∧Pb B st' b c { zeK m l M n with buf:=v } f (zdg m l M n)∧Frm B [b,c] m.buf st st'∧Nwr st.next m.buf v:=by
 obtain ⟨s1,hs1⟩:∃ s,s=st.new (.cells w 0):=⟨_,rfl⟩
 have x1:Ext st s1:=by rw [hs1];exact (Ext.refl st).new _
 have h1:=h.ext x1
 have l1:∀ i,s1.ld st.next i=w[i]?:=fun i=>by rw [hs1];exact zep
 have e3:=zlq h1.tw.rw (n:=Sz) h0
 rw [hn] at e3
 have start:∀ r,(cond (decide (M=6)) _ _:Option (Value×SS))=some r→cc 26 [ptr b 0,wv,.int .u32 a] st=some r:=fun r hr=>by
  refine zef _ _ _ st ?_
  unfold zdw
  rw [hw.c]
  simp only
  rw [← hs1]
  refine bs (a:=Sz) (by rw [l1,hw.s];rfl) (bs e3 ?_)
  simp only [zob,zac]
  refine bs (a:=M) (by rw [l1,hw.m];rfl) ?_
  exact hr
 by_cases m6:M=6
 ·obtain ⟨s2,v,e2,p2,f2,n2⟩:=znw n 0 s1 m l h1 (by omega)
  rw [Nat.zero_add] at e2
  refine ⟨s2,v,start _ ?_,?_,(Frm.ofExt x1).then f2 (.refl _ _),(Nwr.refl _ _).trans n2 x1.next⟩
  ·rw [zdt m6,zct]
   exact bs e2 rfl
  ·unfold zeK zdg;rw [if_neg (by omega),if_pos m6];exact p2
 by_cases m7:M=7
 ·obtain ⟨v15,e15,q15,_⟩:=h1.sl.resl (l:=0) (k:=min n l.length) (Nat.zero_le _) (Nat.min_le_right _ _)
  have e15':s1.resl m.buf 1 0 ((min n l.length:Nat):Int)=some v15:=e15
  have hz:(l.take (min n l.length)).length=min n l.length:=by rw [List.length_take];omega
  have q15':SL B s1 1 v15 (rowsF byR (l.take (min n l.length))) (l.take (min n l.length)).length:=by
   rw [Nat.zero_mul,List.drop_zero,Nat.sub_zero,znx] at q15
   rw [hz];exact q15
  have e17:=zkW (b:=b) q15' (by rw [hz];have:=h.len;omega) ((min n l.length:Nat):Int) (min n l.length) 0 0 (by rw [hz];omega)
  rw [List.drop_zero] at e17
  obtain ⟨v25,e25,q25,b25⟩:=h1.sl.resl (l:=min n l.length) (k:=l.length) (Nat.min_le_right _ _) (zlr _)
  obtain ⟨s29,e29,t29,k29,_⟩:=h1.tw.setR (i:=36) (by omega) (outT l n)
  have hc:=q25.cell
  obtain ⟨s32,e32,t32,k32,_⟩:=t29.wV (k:=0+77) (x:=v25) _ (by omega) hc.1 hc.2 (PM.s77 _ _) rfl
  have k:Mod [b,c] s1 s32:=k29.then k32
  have hbc:∀ j,j∈[b,c]→j<B:=by intro j hj;simp at hj;have:=h.bB;have:=h.cB;omega
  refine ⟨s32,v25,start _ ?_,⟨?_,?_,h.bB,h.cB,zlt h1.hB k.next,by rw [k.lim];exact h1.lB,?_⟩,(Frm.ofExt x1).then (.ofMod (v:=m.buf) k) (.refl _ _),fun i o q r e=>?_⟩
  ·rw [zdf m6,zcf,zdt m7,zct]
   simp only [zad,zaa,zob]
   refine bs h1.ldB (bs h1.sl.lenI ?_)
   have hmin:(if (l.length:Int)<(n:Int) then (l.length:Int) else (n:Int))=((min n l.length:Nat):Int):=by split<;>omega
   rw [hmin]
   refine bs h1.ldB (bs e15' (bs q15'.lenI (bs e17 ?_)))
   refine bs (a:=ptr b 0) rfl (bs (a:=((min n l.length:Nat):Int)) rfl (bs (a:=outT l n) rfl ?_))
   simp only [zad,zaa,zob]
   refine bs h1.ldB (bs h1.sl.sl (bs e25 (bs (zaF (n:=36) (by omega)) ?_)))
   rw [zqM h1.sl h.bB,zct]
   exact bs e29 (bs e32 rfl)
  ·unfold zeK;rw [if_pos m7];exact t32
  ·have hd:zdg m l M n=l.drop (min n l.length):=by unfold zdg;rw [if_neg m6,if_pos m7]
   rw [hd]
   have q:=q25.mod k hbc
   have e:((rowsF byR l).drop (min n l.length*1)).take ((l.length-min n l.length)*1)=rowsF byR (l.drop (min n l.length)):=by
    rw [zlu,List.take_of_length_le (by rw [zmc,List.length_drop];omega)]
   rw [e,← List.length_drop] at q
   exact q
  ·unfold zdg;rw [if_neg m6,if_pos m7,List.length_drop];have:=h.len;omega
  ·obtain ⟨o',q',r',e'⟩:=b25 i o q r e
   exact .inr fun hno=>hno o' q' r' e'
 by_cases m8:M=8
 ·obtain ⟨s2,e2,t2,k2,_⟩:=h1.tw.w (k:=0+77) (x:=.slice none 0 0) _ (by omega) rfl (PM.s77 _ _) rfl
  refine ⟨s2,.slice none 0 0,start _ ?_,⟨?_,?_,h.bB,h.cB,zlt h1.hB k2.next,by rw [k2.lim];exact h1.lB,?_⟩,(Frm.ofExt x1).then (.ofMod (v:=m.buf) k2) (.refl _ _),fun i o q r e=>by cases e⟩
  ·rw [zdf m6,zcf,zdf m7,zcf,zdt m8,zct]
   simp only [zad,zaa,zob]
   exact bs e2 rfl
  ·unfold zeK;rw [if_neg m7];exact t2
  ·unfold zdg;rw [if_neg m6,if_neg m7,if_pos m8];exact SL.nil
  ·unfold zdg;rw [if_neg m6,if_neg m7,if_pos m8];simp
 ·refine ⟨s1,m.buf,start _ ?_,?_,.ofExt x1,.refl _ _⟩
  ·rw [zdf m6,zcf,zdf m7,zcf,zdf m8,zcf,zdf hM.1,zcf,zdf hM.2.1,zcf,zdf hM.2.2,zcf]
  ·unfold zeK zdg;rw [if_neg m7,if_neg m6,if_neg m7,if_neg m8];exact h1
end
end Go.Proofs.YtlpigjmjgclgiaaDoorE
namespace Go.Proofs.YtlpigjmjgclgiaaDoorE
set_option maxRecDepth 20000
open Go Go.E Go.Proofs
def zce:LoopI:=⟨[(2,.any),(5,.any),(16,.any),(17,.int .i64),(18,.int .i64)],[(.exit 0,[(2,.any),(5,.any)]),(.ret,[(4,.bool)])]⟩
def zcs (n:Nat):Option LoopI:=cond (Nat.beq n 7) (some zce) (none)
noncomputable def zcW (cf:zao) (lf:zab) (s':Value) (words':Value) (st:SS):Option (Value×SS):=
 let a:SS:=st.new (.cells (s':Value).cells.toList 0)
 (cf 6 [] a).bind fun b=>
 ((some b.1).bind asB).bind fun c=>
 cond (!c) (
 some (.bool false,b.2)) (
 ((lenV words').bind (asI .i64)).bind fun d=>
 cond (decide (60<d)) (
 some (.bool true,b.2)) (
 (b.2.ldN st.next 0 26).bind fun e=>
 (cf 15 [e] b.2).bind fun f=>
 ((lenV words').bind (asI .i64)).bind fun g=>
 (lf 7 [ptr st.next 0,f.1,words',.int .i64 g,.int .i64 0] f.2).bind fun h=>
 cond (Nat.beq h.1 0) (
 (h.2.1[0]?).bind fun i=>
 (h.2.1[1]?).bind fun j=>
 (cf 9 [j,.agg #[.int .i64 0,.int .i64 0,.int .i64 0,.int .i64 0,.int .i64 0,.int .i64 0,.int .i64 0,.int .i64 0,.int .i64 0,.int .i64 0,.int .i64 0,.int .i64 2]] h.2.2).bind fun k=>
 (cf 17 [j] k.2).bind fun l=>
 (cf 18 [j] l.2).bind fun m=>
 (cf 19 [m.1,.agg #[.int .u32 0,.int .u32 0,.int .u32 0,.int .u32 0,.int .u32 0,.int .u32 0,.int .u32 0,.int .u32 0,.int .u32 0,.int .u32 0,.int .u32 0,.int .u32 0,.int .u32 0,.int .u32 0,.int .u32 0,.int .u32 0,.int .u32 0,.int .u32 0,.int .u32 0,.int .u32 0,.int .u32 0,.int .u32 0,.int .u32 0,.int .u32 0,.int .u32 0,.int .i64 0]] m.2).bind fun n=>
 let o:SS:=n.2.new (.cells [.int .u32 0,.int .u32 0,.int .u32 0,.int .u32 0,.int .u32 0,.int .u32 0,.int .u32 0,.int .u32 0,.int .u32 0,.int .u32 0,.int .u32 0,.int .u32 0,.int .u32 0,.int .u32 0,.int .u32 0,.int .u32 0,.int .u32 0,.int .u32 0,.int .u32 0,.int .u32 0,.int .u32 0,.int .u32 0,.int .u32 0,.int .u32 0,.int .u32 0,.int .i64 0] 0)
 (o.stV n.2.next 0 26 n.1).bind fun p=>
 (p.ldN n.2.next 0 16).bind fun q=>
 (addr? i).bind fun s=>
 (p.ldN s.1 s.2 16).bind fun t=>
 (((eqA Tryd.prog Lk0 40 q t).bind fun r=>some (.bool r)).bind asB).bind fun u=>
 cond u (
 ((p.ld n.2.next 16).bind (asI .u32)).bind fun v=>
 (addr? i).bind fun w=>
 ((p.ld w.1 (w.2+16)).bind (asI .u32)).bind fun x=>
 cond (decide (v=x)) (
 ((p.ld n.2.next 17).bind (asI .u32)).bind fun y=>
 (addr? i).bind fun z=>
 ((p.ld z.1 (z.2+17)).bind (asI .u32)).bind fun A=>
 cond (decide (y=A)) (
 ((p.ld n.2.next 18).bind (asI .u32)).bind fun B=>
 (addr? i).bind fun C=>
 ((p.ld C.1 (C.2+18)).bind (asI .u32)).bind fun D=>
 cond (decide (B=D)) (
 (cf 18 [j] p).bind fun E=>
 (cf 20 [E.1] E.2).bind fun F=>
 ((some F.1).bind (asI .i64)).bind fun G=>
 some (.bool (decide (G=0)),F.2)) (
 some (.bool false,p))) (
 some (.bool false,p))) (
 some (.bool false,p))) (
 some (.bool false,p))) (
 ((h.2.1[0]?).bind asB).bind fun H=>
 some (.bool H,h.2.2))))
noncomputable abbrev za1:zab:=lS Tryd.prog Lk0 Tryd.f5 zcs
theorem zeN:Lk0.func 5=some (5,Tryd.f5):=by kernel_rfl
theorem zeO [Sym] (s':Value) (words':Value) (st:SS) {r:Value×SS} (h:zcW cc za1 s' words' st=some r):cc 5 [s',words'] st=some r:=
 zah (li:=zcs) zak zaq zeN rfl (fun _=>rfl) (.trans (by kernel_rfl) h)
noncomputable def zbx (cf:zao) (lf:zab) (s':Value) (p':Value) (t16':Value) (t17':Int) (t18':Int) (st:SS):Option (Nat×List Value×SS):=
 cond (decide (t18'<t17')) (
 (za8 t16' t18' 12).bind fun a=>
 (st.ldN a.1 a.2 12).bind fun b=>
 let c:SS:=st.new (.cells [.int .i64 0,.int .i64 0,.int .i64 0,.int .i64 0,.int .i64 0,.int .i64 0,.int .i64 0,.int .i64 0,.int .i64 0,.int .i64 0,.int .i64 0,.int .i64 0] 0)
 (c.stV st.next 0 12 b).bind fun d=>
 (d.ldN st.next 0 12).bind fun e=>
 (cf 16 [e] d).bind fun f=>
 ((some f.1).bind asB).bind fun g=>
 cond (!g) (
 some (1,[.bool true],f.2)) (
 (f.2.st st.next 3 [.int .i64 16]).bind fun h=>
 (h.ldN st.next 0 12).bind fun i=>
 (cf 9 [p',i] h).bind fun j=>
 let k:Int:=IntKind.wrap .i64 (t18'+1)
 lf 7 [s',p',t16',.int .i64 t17',.int .i64 k] j.2)) (
 some (0,[s',p'],st))
theorem zb1 [Sym] (s':Value) (p':Value) (t16':Value) (t17':Int) (t18':Int) (st:SS) {r:Nat×List Value×SS} (h:zbx cc za1 s' p' t16' t17' t18' st=some r):za1 7 [s',p',t16',.int .i64 t17',.int .i64 t18'] st=some r:=
 zbD zak zaq (key:=7) (I:=zce) rfl (by kernel_rfl) (by kernel_rfl) rfl rfl (.trans (by kernel_rfl) h)
noncomputable def zeL (cf:zao) (lf:zab) (s':Value) (st:SS):Option (Value×SS):=
 let a:SS:=st.new (.cells (s':Value).cells.toList 0)
 (cf 8 [] a).bind fun b=>
 (b.2.ldN st.next 0 26).bind fun c=>
 (cf 37 [b.1,c] b.2).bind fun d=>
 (cf 7 [b.1] d.2).bind fun e=>
 some (e.1,e.2)
noncomputable abbrev zgO:zab:=lS Tryd.prog Lk0 Tryd.f15 zau
theorem zgP:Lk0.func 15=some (15,Tryd.f15):=by kernel_rfl
theorem zgQ [Sym] (s':Value) (st:SS) {r:Value×SS} (h:zeL cc zgO s' st=some r):cc 15 [s'] st=some r:=
 zah (li:=zau) zak zaq zgP rfl (fun _=>rfl) (.trans (by kernel_rfl) h)
end Go.Proofs.YtlpigjmjgclgiaaDoorE
namespace Go.Proofs.YtlpigjmjgclgiaaDoorE
set_option maxRecDepth 100000
open Go Go.E Go.Proofs
structure Idl (m:PM):Prop where
 wt:m.wt=0
 wx:m.wx=0
 ws:m.ws=0
 ops:m.ops=.slice none 0 0
section
variable {B : Nat} {st st' s1 s2 : SS} {b c n : Nat} {m m' : PM} {f f' : FM} {l : List Int} {S : List Nat} {u v w : Value}
theorem Idl.os (h:Idl m):Os st m []:=⟨by rw [h.ops];exact zkU _ _,by simp⟩
theorem Idl.get (h:Idl m) {n U:Nat} (h1:16≤n) (h2:n<38):getT m f [] U (n:Int)=m.r n:=by
 unfold getT
 rw [zey (by omega)]
 show zfI m f U n=_
 unfold zfI
 rw [if_neg (by omega),if_neg (by rw [h.ws];omega)]
 unfold zdk
 simp only [show ¬ ((n:Int)=38) by omega,show ¬ ((n:Int)=48) by omega,show ¬ ((n:Int)=49) by omega,show ¬ ((n:Int)=51) by omega,show ¬ ((n:Int)=52) by omega,show ¬ ((n:Int)=58) by omega,show ¬ ((n:Int)=41) by omega,show ¬ ((n:Int)=42) by omega,show ¬ ((60:Int)≤n) by omega,if_false,or_self,Int.toNat_natCast]
theorem Idl.count (h:Idl m) (U:Nat) (hU:U<4294967296):getT m f [] U 58=(U:Int):=by
 have e:zex m [] 58=some 58:=by unfold zex;rw [if_neg (by omega),if_neg (by omega),if_neg (by omega),if_neg (by omega)]
 unfold getT
 rw [e]
 show zfI m f U 58=_
 unfold zfI
 rw [if_neg (by omega),if_neg (by rw [h.ws];omega)]
 unfold zdk
 rw [if_neg (by omega),if_neg (by omega),if_neg (by omega),if_neg (by omega),if_pos rfl]
 exact zcN (by omega) (by omega)
end
end Go.Proofs.YtlpigjmjgclgiaaDoorE
namespace Go.Proofs.YtlpigjmjgclgiaaDoorE
set_option maxRecDepth 100000
open Go Go.E Go.Proofs
def u32R (x:Nat):List Value:=[.int .u32 (x:Int)]
section
variable {B : Nat} {st st' s1 s2 : SS} {b c : Nat} {m m' : PM} {f f' : FM} {l : List Int} {xs : List Nat} {v w lv : Value}
structure Ls (G:Nat) (st:SS) (lv:Value) (xs:List Nat):Prop where
 rg:Rg st lv (rowsF u32R xs) 1 xs.length
 low:∀ i o l q,lv=.slice (some ⟨i,o,none⟩) l q→i<G
theorem Ls.keepB {G:Nat} (h:Ls G st lv xs) (k:Keep B [b,c] st st') (hB:G≤B) (hb:G≤b) (hc:G≤c):Ls G st' lv xs:=
 ⟨h.rg.keep k.next fun i l q e hi=>by have:=h.low i 0 l q e;exact k.keep i (by omega) (by simp;omega),h.low⟩
theorem Ls.ext {G:Nat} (h:Ls G st lv xs) (k:Ext st st'):Ls G st' lv xs:=⟨h.rg.ext k,h.low⟩
theorem Ls.at' {G:Nat} (h:Ls G st lv xs) {i:Nat} (hi:i<xs.length):∃ p,za8 lv (i:Int) 1=some p∧(st.ld p.1 p.2).bind (asI .u32)=some (xs[i]:Int):=by
 have hrow:∀ l:List Nat,rowsF u32R l=l.map fun (x:Nat)=>Value.int .u32 (x:Int):=fun l=>by
  induction l with
  | nil=>rfl
  | cons a r ih=>
    show u32R a++rowsF u32R r=_
    rw [ih];rfl
 obtain ⟨p,e1,_,e2⟩:=h.rg.load (j:=(i:Int)) (by omega) (by omega) (row:=u32R xs[i]) (by
  rw [hrow,Int.toNat_natCast,Nat.mul_one,← List.map_drop,List.drop_eq_getElem_cons hi];rfl) rfl
 refine ⟨p,e1,?_⟩
 have:=e2 0 (.int .u32 (xs[i]:Int)) rfl
 rw [Nat.add_zero] at this
 rw [this];rfl
variable {G k : Nat}
end
end Go.Proofs.YtlpigjmjgclgiaaDoorE
namespace Go.Proofs.YtlpigjmjgclgiaaDoorE
set_option maxRecDepth 100000
open Go Go.E Go.Proofs
structure Tb (st:SS):Prop where
 t:st.mem.get 0=some (.table deBr)
 lt:0<st.lim
section
variable {st st' : SS} {b c : Nat} {m m' : PM} {f f' : FM}
theorem Tb.mod {S:List Nat} (h:Tb st) (k:Mod S st st') (hS:∀ i,i∈S→st.lim≤i) (hl:st.lim≤st.next):Tb st':=
 ⟨(k.keep _ (by have:=h.lt;omega) fun hm=>by have:=hS _ hm;have:=h.lt;omega).trans h.t,by rw [k.lim];exact h.lt⟩
theorem Tb.modT (h:Tb st) (t:Tw st b c m f) (k:Mod [b,c] st st'):Tb st':=h.mod k (fun i hi=>by
 have h1:=t.p.2.2;have h2:=t.f.2.2
 simp only [List.mem_cons,List.not_mem_nil,or_false] at hi
 rcases hi with rfl | rfl<;>assumption) t.ll
theorem Tb.ext (h:Tb st) (k:Ext st st') (hl:st.lim≤st.next):Tb st':=h.mod (S:=[]) (.ofExt k) (fun i hi=>by cases hi) hl
theorem zrt (f:Nat) (vs:List Value) (nx:Nat):Lk0.con f vs nx=conF f vs nx:=by kernel_rfl
theorem zru:zet (some (.table deBr)) (.table deBr)=true:=by kernel_rfl
theorem ctz_ok [Sym] (h:Tb st) (hl:st.lim≤st.next) {x:Nat} (hx:x<4294967296):cc 71 [.int .u32 (x:Int)] st=some (.int .i64 (Lib.ctz 32 x:Int),st):=by
 have h1:Lk0.con 71 [.int .u32 (x:Int)] st.next=some (ctzC st.next (x:Int)):=by
  rw [zrt]
  unfold conF
  rw [show Nat.beq 71 71=true from rfl,zct]
  simp only
  rw [zdt (show (0:Int)≤(x:Int) by omega),zdt (show (x:Int)<4294967296 by omega)];rfl
 have h2:=zpO (P:=Tryd.prog) (L:=Lk0) (f:=71) (args:=[.int .u32 (x:Int)]) (st:=st) rfl h1 (by
  have e1:Nat.ble st.next st.next=true:=by rw [Nat.ble_eq];exact zlr _
  have e2:Nat.blt 0 st.next=true:=by
   have:=h.lt
   show Nat.ble (0+1) st.next=true
   rw [Nat.ble_eq];omega
  have e3:Lk0.glob 0=true:=by kernel_rfl
  simp only [ctzC,List.all_cons,List.all_nil,Bool.and_true]
  rw [e1,e2,e3,h.t,zru];rfl)
 exact h2
def zho (m:PM) (x:Nat):PM:=if x=0 then { m with fl:=true } else { m with fl:=false,r:=up (up m.r 22 (Lib.ctz 32 x:Int)) 21 ((x&&& (x-1):Nat):Int) }
theorem zp1 {x:Nat} (h0:x≠0) (hx:x<4294967296):Lib.ctz 32 x=Lib.ctzFrom 32 x∧Lib.ctz 32 x<32:=by
 have:=(zns 32 x h0 hx).2.2.2.2
 unfold Lib.ctz
 rw [if_neg h0]
 exact ⟨rfl,this⟩
theorem zrv [Sym] (h:Tw st b c m f) (ht:Tb st) {x:Nat} (hx:x<4294967296) (h21:m.r 21=(x:Int)):∃ st',cc 55 [ptr b 0] st=some (.tuple #[],st')∧Tw st' b c (zho m x) f∧Mod [b,c] st st':=by
 have l21:(st.ld b (0+1+21*1)).bind (asI .u32)=some (x:Int):=by rw [← h21];exact h.rw.ldR (by omega)
 obtain ⟨s7,g7,t7,k7,_⟩:=h.w (k:=0+83) (x:=.bool (decide ((x:Int)=0))) _ (by omega) rfl (PM.s83 _ _) rfl
 by_cases h0:x=0
 ·refine ⟨s7,zeJ _ st ?_,?_,k7⟩
  ·unfold zd4
   simp only [zad,zaa,zob]
   refine bs (zaF (n:=21) (by omega)) (bs l21 (bs g7 ?_))
   rw [zdt (show (x:Int)=0 by omega)];rfl
  ·unfold zho;rw [if_pos h0]
   rw [zdt (show (x:Int)=0 by omega)] at t7;exact t7
 ·have hx0:decide ((x:Int)=0)=false:=zdf (by omega)
  rw [hx0] at g7 t7
  obtain ⟨_,hk⟩:=zp1 h0 hx
  have e8:=ctz_ok (ht.modT h k7) t7.ll hx
  obtain ⟨s14,g14,t14,k14,_⟩:=t7.setR (i:=22) (by omega) (Lib.ctz 32 x:Int)
  obtain ⟨s20,g20,t20,k20,_⟩:=t14.setR (i:=21) (by omega) ((x&&& (x-1):Nat):Int)
  refine ⟨s20,zeJ _ st ?_,by unfold zho;rw [if_neg h0];exact t20,(k7.then k14).then k20⟩
  unfold zd4
  simp only [zad,zaa,zob]
  refine bs (zaF (n:=21) (by omega)) (bs l21 ?_)
  rw [hx0]
  refine bs g7 ?_
  simp only [znf,zct]
  refine bs e8 ?_
  simp only [zob,zac]
  rw [zcN (n:=(Lib.ctz 32 x:Int)) (by omega) (by omega),show (x:Int)-1=((x-1:Nat):Int) by omega,zcN (n:=((x-1:Nat):Int)) (by omega) (by omega),and32 hx (by omega)]
  exact bs (zaF (n:=22) (by omega)) (bs g14 (bs (zaF (n:=21) (by omega)) (bs g20 rfl)))
end
end Go.Proofs.YtlpigjmjgclgiaaDoorE
namespace Go.Proofs.YtlpigjmjgclgiaaDoorE
open Go Go.E Go.Proofs
structure Pi (m:PM) (r:Nat):Prop where
 wt:m.wt=0
 wx:m.wx=0
 ws:m.ws=0
 buf:m.buf=.slice none 0 0
 ops:m.ops=.slice none 0 0
 e:m.r 21=(r:Int)
 lt:r<4294967296
section
variable {st st' : SS} {b c : Nat} {m m' : PM} {f f' : FM} {r : Nat}
theorem Pi.os (h:Pi m r):Os st m []:=⟨by rw [h.ops];exact zkU _ _,by simp⟩
theorem Pi.hU (h:Pi m r):lenV m.buf=some (.int .i64 ((0:Nat):Int)):=by rw [h.buf];rfl
theorem Pi.get (h:Pi m r) {n:Nat} (h1:16≤n) (h2:n<38):getT m f [] 0 (n:Int)=m.r n:=by
 unfold getT
 rw [zey (by omega)]
 show zfI m f 0 n=_
 unfold zfI
 rw [if_neg (by omega),if_neg (by rw [h.ws];omega)]
 unfold zdk
 simp only [show ¬ ((n:Int)=38) by omega,show ¬ ((n:Int)=48) by omega,show ¬ ((n:Int)=49) by omega,show ¬ ((n:Int)=51) by omega,show ¬ ((n:Int)=52) by omega,show ¬ ((n:Int)=58) by omega,show ¬ ((n:Int)=41) by omega,show ¬ ((n:Int)=42) by omega,show ¬ ((60:Int)≤n) by omega,if_false,or_self,Int.toNat_natCast]
end
end Go.Proofs.YtlpigjmjgclgiaaDoorE
namespace Go.E
open Go
section
variable {P : Program} {L : Lk} {c1 c2 : CallF}
theorem zlv (hc:zeB c1 c2) {ops:List Oper}:∀ (l:List Oper) (τ:Tm) (st:St) (r:Tm×St),opsE P L c1 ops l τ st=some r→opsE P L c2 ops l τ st=some r
 | [],τ,st,r,h=>h
 | o::l,τ,st,r,h=>by
   simp only [opsE] at h ⊢
   cases hw:wantedE ops τ o with
   | true=>
     rw [hw] at h
     simp only [zct,zbi] at h ⊢
     obtain ⟨x,hx,h⟩:=h
     exact ⟨x,zmt hc hx,zlv hc l _ _ _ h⟩
   | false=>
     rw [hw] at h
     simp only [zcf] at h ⊢
     exact zlv hc l _ _ _ h
theorem zny:∀ n,zkv (zaA P L n) (zaA P L (n+1))
 | 0,c,τ,st,r,h=>by cases h
 | n+1,c,τ,st,r,h=>by
   have ih:=zny n
   have hc:zeB (zaH L (zaA P L n)) (zaH L (zaA P L (n+1))):=zk7 ih
   unfold zaA at h ⊢
   cases c<;>simp only at h ⊢<;>try exact h
   case region id ops d=>
    cases d<;>simp only [zmi] at h ⊢
    ·obtain ⟨x,hx,h⟩:=h
     exact ⟨x,zlv hc _ _ _ _ hx,h⟩
    ·obtain ⟨x,hx,h⟩:=h
     exact ⟨x,zk6 hc _ _ _ _ _ hx,h⟩
   case seq a b=>
    simp only [zbi] at h ⊢
    obtain ⟨⟨e,τ1,st1⟩,hx,h⟩:=h
    refine ⟨(e,τ1,st1),ih _ _ _ _ hx,?_⟩
    cases e<;>simp only at h ⊢<;>first | exact ih _ _ _ _ h | exact h
   case cond x a b=>
    cases hv:rho L τ x with
    | none=>rw [hv] at h;cases h
    | some v=>
      rw [hv] at h
      try simp only [zob]
      cases v<;>(try simp only [zob] at h)<;>(try simp only)<;>try (cases h;done)
      rename_i bb
      cases bb<;>exact ih _ _ _ _ h
   case block id body=>
    simp only [zbi] at h ⊢
    obtain ⟨⟨e,τ1,st1⟩,hx,h⟩:=h
    refine ⟨(e,τ1,st1),ih _ _ _ _ hx,?_⟩
    cases e<;>exact h
   case loop body=>
    simp only [zbi] at h ⊢
    obtain ⟨⟨e,τ1,st1⟩,hx,h⟩:=h
    refine ⟨(e,τ1,st1),ih _ _ _ _ hx,?_⟩
    cases e<;>simp only at h ⊢<;>first | exact ih _ _ _ _ h | exact h
theorem zqO {n m:Nat} (h:n≤m):zkv (zaA P L n) (zaA P L m):=by
 obtain ⟨k,rfl⟩:=Nat.le.dest h
 clear h
 induction k with
 | zero=>exact fun _ _ _ _ h=>h
 | succ k ih=>exact fun c τ st r h=>zny _ _ _ _ _ (ih _ _ _ _ h)
def okP (nx:Nat) (r:Option (Value×St)):Bool:=match r with
 | some (.bool b,s)=>b&&Nat.ble nx s.next
 | _=>false
theorem zoc [Sym] (hL:L.Ok P) {f:FuncId} {args:List Value} {st:SS} {n:Nat} (hx:L.ext f args=none) (hcn:L.con f args st.next=none) (hp:L.pureF f=true)
  (h:okP st.next (runF P L n f args ⟨st.mem,st.next,st.next,[]⟩)=true):∃ N,st.next≤N∧cS P L f args st=some (.bool true,st.adv N):=by
 cases hr:runF P L n f args ⟨st.mem,st.next,st.next,[]⟩ with
 | none=>rw [hr] at h;cases h
 | some r=>
   have hrun:=zqZ hL hr
   rw [hr] at h
   obtain ⟨v,s'⟩:=r
   have hv:v=.bool true∧st.next≤s'.next:=by
    unfold okP at h
    cases v<;>simp only at h<;>try (cases h;done)
    rename_i b
    rw [zae] at h
    exact ⟨by rw [h.1],Nat.le_of_ble_eq_true h.2⟩
   obtain ⟨rfl,hN⟩:=hv
   refine ⟨s'.next,hN,?_⟩
   rw [zh4]
   refine ⟨rfl,n,fun m hm base log=>⟨log,?_,.refl _ _ _⟩⟩
   unfold runE zaH at hrun
   unfold zaH
   have hcn':L.con f args (st.toE base log).next=none:=hcn
   rw [hx] at hrun ⊢
   simp only at hrun ⊢
   rw [hcn] at hrun
   rw [hcn']
   simp only [hp,zct,zbi] at hrun ⊢
   obtain ⟨a,ha,c,hc,h1⟩:=hrun
   refine ⟨a,ha,c,hc,?_⟩
   cases hb:Nat.ble args.length a.2.ntmps with
   | false=>rw [hb] at h1;cases h1
   | true=>
     rw [hb] at h1
     simp only [zct,zbi] at h1 ⊢
     obtain ⟨⟨e,τ,s1⟩,h2,h3⟩:=h1
     refine ⟨(e,τ,s1),zqO hm _ _ _ _ h2,?_⟩
     cases e<;>simp only [zbi] at h3 ⊢<;>first
      | (cases h3;done)
      | (obtain ⟨vs,h4,h5⟩:=h3
         refine ⟨vs,h4,?_⟩
         cases hq:(s1.log.isEmpty&&flat3 (zaM vs)) with
         | false=>rw [hq] at h5;cases h5
         | true=>
           rw [hq] at h5
           simp only [zct,zsj,zpj] at h5 ⊢
           obtain ⟨h6,h7⟩:=h5
           exact ⟨h6,by rw [← h7];rfl⟩)
end
end Go.E
namespace Go.Proofs.YtlpigjmjgclgiaaDoorE
set_option maxRecDepth 1000000
open Go Go.E Go.Proofs
noncomputable def zfL:List (Nat×AObj):=[(0,.table deBr)]
noncomputable def st0:SS:=⟨zcY zfL,1,1⟩
def laidB:DataW Unit:=.agg (Lib.deBruijn32tab.map fun (z:Nat)=>.lit (.int .u8 (z:Int)))
theorem globIn:∀ g,Lk0.glob g=true→g∈zfL.map (·.1):=fun g h=>by
 have h':Nat.beq g 0=true:=h
 rw [zan,decide_eq_true_eq] at h'
 subst h';simp [zfL]
end Go.Proofs.YtlpigjmjgclgiaaDoorE
namespace Go.Proofs.YtlpigjmjgclgiaaDoorE
set_option maxRecDepth 1000000
open Go Go.E Go.Proofs
theorem arg_row {H:Type} {enc:TypeId×Value→H} {P:Program} {W:World} {spare:Nat→Bool} {held:Bool} {α:Type} {f:α→List Value} {ok:α→Prop} {t e d:Nat} {ks:List CK} {v:Value} {dd:DataW H} {p:List MemPlace} (id g:Nat) (hg:∃ arr T fr,W.heap[g]?=some (.cells arr T fr)) (ht:P.underlying t=some (.slice e)) (hk:zfs P d e=some ks) (hc:P.cellsOf e=ks.length) (hz:0<ks.length)
  (hty:∀ r,Cks ks r→∃ s,r=f s∧ok s) (hfl:∀ s,(f s).all zaR=true) (hval:Value.okWide P W .any 0 t v) (h:DataW.Trod enc P W 0 spare held t v dd p):
  ∃ (l:List α) (av:Value) (pl:Pl),(∀ s∈l,ok s)∧Tv id l.length av∧(∃ obj,W.heap[pl.b]?=some obj∧∀ [Sym] (β:Emb),OR β pl obj (.table (l.flatMap f)))∧∀ [Sym] (β:Emb),β id=some pl→VR β av v:=by
 obtain ⟨l,h1,h2⟩:=zpP (f:=f) ht hk hc hz hty hval h
 have hf:∀ x∈l.flatMap f,zaR x=true:=fun x hx=>by
  obtain ⟨s,_,hs⟩:=List.mem_flatMap.1 hx
  exact List.all_eq_true.1 (hfl s) x hs
 rcases h2 with ⟨rfl,rfl⟩ | ⟨b,off,cap,rfl,h3,h4,arr,T,fr,hh,h5⟩
 ·obtain ⟨arr,T,fr,hh⟩:=hg
  exact ⟨[],.slice none 0 0,⟨g,0,0,0⟩,h1,.inl ⟨rfl,rfl⟩,⟨_,hh,fun β=>⟨rfl,arr,T,fr,rfl,fun j x hx=>by cases hx⟩⟩,fun β _=>.slice0⟩
 ·refine ⟨l,.slice (some ⟨id,0,none⟩) l.length cap,⟨b,off,0,0⟩,h1,.inr ⟨cap,rfl,h3,h4⟩,⟨_,hh,fun β=>⟨rfl,arr,T,fr,rfl,fun j x hx=>⟨x,h5 j x hx,zbC (hf x (zmg hx))⟩⟩⟩,fun β hb=>?_⟩
  exact .slice (p:=⟨b,off,0,0⟩) hb h3 (zlr _) (.inr rfl) (.inl rfl)
noncomputable def stL (C:List Value):SS:=⟨zcY ((1,.table C)::zfL),1+1,1+1⟩
theorem stL_0 (C:List Value):(stL C).mem.get 1=some (.table C):=by
 show (zcY _).get 1=_
 simp [zcY,putAll,PT.get_upd]
theorem tbL (C:List Value):Tb (stL C):=⟨by kernel_rfl,by show 0<2;omega⟩
theorem err_cells {W:World} {laid:List (String×DataW Unit)} (h:laidMet Tryd.prog laid W) (hB:("math/bits.deBruijn32tab",laidB)∈laid):∃ arr T fr,W.heap[0]?=some (.cells arr T fr):=by
 letI:Sym:=⟨fun _=>.int .i64 0,fun _=>.inl ⟨_,_,rfl⟩⟩
 obtain ⟨oB,b1,b2⟩:=zlH h hB (g:=0) (kk:=.u8) (by kernel_rfl) (by kernel_rfl) Tryd.underlying113 Tryd.underlying5 (by kernel_rfl) (Lib.deBruijn32tab.map fun (z:Nat)=>(z:Int)) (by kernel_rfl)
 obtain ⟨_,arr,T,fr,e,_⟩:=b2 (fun _=>none)
 exact ⟨arr,T,fr,by rw [b1,e]⟩
def plL (p:Pl):Nat→Pl:=fun i=>if i=1 then p else ⟨i,0,0,0⟩
theorem law_at1 {f:Nat} {fn:Func} (hf:Lk0.func f=some (f,fn)) {W:World} {laid:List (String×DataW Unit)} (h:laidMet Tryd.prog laid W) (hB:("math/bits.deBruijn32tab",laidB)∈laid)
  {C:List Value} {p:Pl} (oC:∃ obj,W.heap[p.b]?=some obj∧∀ [Sym] (β:Emb),OR β p obj (.table C)) {args args':List Value} (hargs:∀ [Sym] (β:Emb),β 1=some p→VRs β args args') (hlaw:∀ [Sym],∃ st',cc f args (stL C)=some (.bool true,st')):
  Calls Tryd.prog f args'.toArray W fun e W'=>e=.returned (.bool true)∧RowKit.Below W.heap.size W W':=by
 letI:Sym:=⟨fun _=>.int .i64 0,fun _=>.inl ⟨_,_,rfl⟩⟩
 obtain ⟨oB,f1,f2⟩:=zlH h hB (g:=0) (kk:=.u8) (by kernel_rfl) (by kernel_rfl) Tryd.underlying113 Tryd.underlying5 (by kernel_rfl) (Lib.deBruijn32tab.map fun (z:Nat)=>(z:Int)) (by kernel_rfl)
 obtain ⟨st',hl⟩:=hlaw
 have hX:(plL p) 1=p:=by unfold plL;rw [if_pos rfl]
 have tabLt:∀ x∈zfL,x.1<1:=fun x hx=>by
  simp only [zfL,List.mem_cons,List.not_mem_nil,or_false] at hx
  subst hx;show 0<1;omega
 have hO:∀ x∈zfL,(plL p) x.1=⟨x.1,0,0,0⟩:=fun x hx=>by
  have:=tabLt x hx
  unfold plL;rw [if_neg (by omega)]
 have b1:embB ((1,.table C)::zfL) (plL p) 1=some p:=by rw [zot (by simp),hX]
 refine zrf zak con0 hf (l:=(1,.table C)::zfL) (nx:=1+1) (pl:=plL p) hl rfl (hargs _ b1) (fun x hx=>?_) (fun x hx=>?_) (fun g hg=>?_) (fun x hx=>?_)
 ·rcases List.mem_cons.1 hx with rfl | hx
  ·simp only [hX];exact ⟨oC.choose,oC.choose_spec.1,oC.choose_spec.2 _⟩
  ·rw [hO x hx]
   simp only [zfL,List.mem_cons,List.not_mem_nil,or_false] at hx
   subst hx
   exact ⟨oB,f1,f2 _⟩
 ·rcases List.mem_cons.1 hx with rfl | hx
  ·exact ⟨_,rfl⟩
  ·simp only [zfL,List.mem_cons,List.not_mem_nil,or_false] at hx
   subst hx;exact ⟨_,rfl⟩
 ·have hm:=globIn g hg
  obtain ⟨x,hx,rfl⟩:=List.mem_map.1 hm
  refine ⟨by rw [List.map_cons];exact List.mem_cons_of_mem _ hm,by rw [hO x hx],by rw [hO x hx]⟩
 ·rcases List.mem_cons.1 hx with rfl | hx
  ·show 1<1+1;omega
  ·have:=tabLt x hx;omega
theorem Tv.low {id n:Nat} {v:Value} (h:Tv id n v):∀ i o l q,v=.slice (some ⟨i,o,none⟩) l q→i<id+1:=fun i o l q e=>by
 rcases h with ⟨rfl,_⟩ | ⟨cap,rfl,_⟩
 ·cases e
 ·cases e;omega
end Go.Proofs.YtlpigjmjgclgiaaDoorE
namespace Go.Proofs.YtlpigjmjgclgiaaDoorE
set_option maxRecDepth 100000
open Go Go.E Go.Proofs
def rowS:List Int→Nat→Int→Int
 | [],_,x=>x
 | y::r,i,x=>rowS r (i+1) (orI .u64 x (zbZ .u64 (IntKind.wrap .u64 y) (IntKind.wrap .i64 (8*(i:Int)))))
def byt8 (row:Int) (i:Nat):Int:=IntKind.wrap .u8 (zbm .u64 row (IntKind.wrap .u32 (8*(i:Int))))
def cnt8 (x:Int):Int:=if 8<x then 8 else x
def zkb (m:PM) (l:List Int) (M:Int) (n:Nat) (a:Int):PM:=if M=12 then { m with row:=rowS (l.take 8) 0 0 } else if M=14 then { m with row:=IntKind.wrap .u64 a } else zeK m l M n
def zkc (m:PM) (l:List Int) (M:Int) (n:Nat):List Int:=if M=12∨M=14 then l else if M=13 then (List.range (cnt8 (m.r 23)).toNat).map (byt8 m.row) else zdg m l M n
section
variable {B : Nat} {st st' s1 s2 : SS} {b c n : Nat} {m m' : PM} {f f' : FM} {l : List Int} {S : List Nat} {u v w : Value}
theorem zoB [Sym]:∀ (k i:Nat) (st:SS) (m:PM),Pb B st b c m f l→i+k=min l.length 8→
  ∃ st',zaE 24 [ptr b 0,.int .i64 (i:Int)] st=some (0,[],st')∧Pb B st' b c { m with row:=rowS ((l.take 8).drop i) i m.row } f l∧Mod [b,c] st st'
 | 0,i,st,m,h,hi=>by
   refine ⟨st,zcU _ _ st ?_,?_,.refl _⟩
   ·unfold zco
    simp only [zad,zaa,zob]
    refine bs h.ldB (bs h.sl.lenI ?_)
    rw [zdf (by split<;>omega),zcf]
   ·rw [List.drop_of_length_le (by rw [List.length_take];omega)];exact h
 | k+1,i,st,m,h,hi=>by
   have hlt:i<l.length:=by omega
   have h8:i<8:=by omega
   obtain ⟨p,e1,_,e2⟩:=h.sl.load hlt
   have l1:(st.ld p.1 p.2).bind (asI .u8)=some l[i]:=by
    have:=e2 0 (.int .u8 l[i]) (by rw [zgN l i (zge hlt)];rfl)
    rw [Nat.add_zero] at this
    rw [this];rfl
   have l76:(st.ld b (0+76)).bind (asI .u64)=some m.row:=by rw [h.tw.rw.ld,show 0+76=76 from rfl,m.g76];rfl
   obtain ⟨s3,e3,t3,k3,_⟩:=h.tw.w (k:=0+76) (x:=.int .u64 (orI .u64 m.row (zbZ .u64 (IntKind.wrap .u64 l[i]) (IntKind.wrap .i64 (8*(i:Int)))))) _ (by omega) rfl (PM.s76 _ _) rfl
   have h3:=h.tw' t3 k3 rfl
   obtain ⟨s4,e4,h4,k4⟩:=zoB k (i+1) s3 _ h3 (by omega)
   have htk:i<(l.take 8).length:=by rw [List.length_take];omega
   refine ⟨s4,zcU _ _ st ?_,?_,k3.then k4⟩
   ·unfold zco
    simp only [zad,zaa,zob]
    refine bs h.ldB (bs h.sl.lenI ?_)
    rw [zdt (by split<;>omega),zct]
    refine bs l76 (bs h.ldB (bs e1 (bs l1 ?_)))
    refine bs (show (aI .shl .u64 (IntKind.wrap .u64 l[i]) (IntKind.wrap .i64 (8*(i:Int)))).bind (asI .u64)=some _ from by rw [zda (by rw [wrap64 (by omega) (by omega)];omega)];rfl) ?_
    refine bs e3 ?_
    rw [show IntKind.wrap .i64 ((i:Int)+1)=((i+1:Nat):Int) by rw [wrap64 (by omega) (by omega)];omega]
    exact e4
   ·rw [List.drop_eq_getElem_cons htk,show (l.take 8)[i]=l[i] from List.getElem_take]
    exact h4
theorem zoC [Sym] (row:Int) (N:Nat) (hN:N≤8):∀ (k i:Nat) (st:SS) (m:PM) (l:List Int),Pb B st b c m f l→m.row=row→l=(List.range i).map (byt8 row)→i+k=N→
  ∃ st' v,zaE 30 [ptr b 0,.int .u32 (N:Int),.int .u32 (i:Int)] st=some (0,[],st')∧Pb B st' b c { m with buf:=v } f ((List.range N).map (byt8 row))∧Frm B [b,c] m.buf st st'∧Nwr st.next m.buf v
 | 0,i,st,m,l,h,hr,hl,hi=>by
   have:i=N:=by omega
   subst this
   refine ⟨st,m.buf,zcV _ _ _ st ?_,by rw [← hl];exact h,.refl _,.refl _ _⟩
   unfold zcp
   rw [zdf (by omega)];rfl
 | k+1,i,st,m,l,h,hr,hl,hi=>by
   have hlen:l.length=i:=by rw [hl];simp
   have l76:(st.ld b (0+76)).bind (asI .u64)=some m.row:=by rw [h.tw.rw.ld,show 0+76=76 from rfl,m.g76];rfl
   obtain ⟨v,s1,s2,e1,e2,p2,f2,n2⟩:=znv h (by omega) (byt8 row i)
   obtain ⟨s3,v3,e3,p3,f3,n3⟩:=zoC row N hN k (i+1) s2 { m with buf:=v } _ p2 hr (by rw [hl,List.range_succ,List.map_append];rfl) (by omega)
   refine ⟨s3,v3,zcV _ _ _ st ?_,p3,f2.then f3 n2,n2.trans n3 f2.next⟩
   unfold zcp
   rw [zdt (by omega),zct]
   simp only [zad,zaa,zob]
   refine bs h.ldB (bs l76 ?_)
   rw [hr]
   refine bs (show (aI .shr .u64 row (IntKind.wrap .u32 (8*(i:Int)))).bind (asI .u64)=some _ from by rw [zfA (zi0 rfl _)];rfl) ?_
   refine bs e1 (bs e2 ?_)
   rw [show IntKind.wrap .u32 ((i:Int)+1)=((i+1:Nat):Int) by rw [zcN (by omega) (by omega)];omega]
   exact e3
theorem blk_ok [Sym] (h:Pb B st b c m f l) {wv:Value} {w:List Value} {Sz M:Int} (hw:Wd wv w Sz M) (h0:0≤Sz) (hn:sizeT m Sz=(n:Int)) (hn6:n≤1000000) (h23:0≤m.r 23) (a:Int):
  ∃ st' v,cc 26 [ptr b 0,wv,.int .u32 a] st=some (.tuple #[],st')∧Pb B st' b c { zkb m l M n a with buf:=v } f (zkc m l M n)∧Frm B [b,c] m.buf st st'∧Nwr st.next m.buf v:=by
 by_cases hM:M≠12∧M≠13∧M≠14
 ·obtain ⟨s,v,e,p,q⟩:=zqN h hw h0 hn hn6 hM a
  refine ⟨s,v,e,?_,q⟩
  have e1:zkb m l M n a=zeK m l M n:=by unfold zkb;rw [if_neg hM.1,if_neg hM.2.2]
  have e2:zkc m l M n=zdg m l M n:=by unfold zkc;rw [if_neg (by omega),if_neg hM.2.1]
  rw [e1,e2];exact p
 obtain ⟨s1,hs1⟩:∃ s,s=st.new (.cells w 0):=⟨_,rfl⟩
 have x1:Ext st s1:=by rw [hs1];exact (Ext.refl st).new _
 have h1:=h.ext x1
 have l1:∀ i,s1.ld st.next i=w[i]?:=fun i=>by rw [hs1];exact zep
 have e3:=zlq h1.tw.rw (n:=Sz) h0
 rw [hn] at e3
 have start:∀ r,(cond (decide (M=6)) _ _:Option (Value×SS))=some r→cc 26 [ptr b 0,wv,.int .u32 a] st=some r:=fun r hr=>by
  refine zef _ _ _ st ?_
  unfold zdw
  rw [hw.c]
  simp only
  rw [← hs1]
  refine bs (a:=Sz) (by rw [l1,hw.s];rfl) (bs e3 ?_)
  simp only [zob,zac]
  refine bs (a:=M) (by rw [l1,hw.m];rfl) ?_
  exact hr
 by_cases m12:M=12
 ·subst m12
  obtain ⟨s2,e2,t2,k2,_⟩:=h1.tw.w (k:=0+76) (x:=.int .u64 0) _ (by omega) rfl (PM.s76 _ 0) rfl
  have h2:=h1.tw' t2 k2 rfl
  obtain ⟨s4,e4,h4,k4⟩:=zoB (min l.length 8) 0 s2 _ h2 (by omega)
  refine ⟨s4,m.buf,start _ ?_,?_,(Frm.ofExt x1).then (.ofMod (v:=m.buf) (k2.then k4)) (.refl _ _),.refl _ _⟩
  ·simp only [Int.reduceEq,decide_false,decide_true,zcf,zct,zad,zaa,zob]
   exact bs e2 (bs e4 rfl)
  ·have e1:zkb m l 12 n a={ m with row:=rowS (l.take 8) 0 0 }:=rfl
   have e2:zkc m l 12 n=l:=rfl
   rw [e1,e2]
   exact h4
 by_cases m14:M=14
 ·subst m14
  obtain ⟨s2,e2,t2,k2,_⟩:=h1.tw.w (k:=0+76) (x:=.int .u64 (IntKind.wrap .u64 a)) _ (by omega) rfl (PM.s76 _ _) rfl
  refine ⟨s2,m.buf,start _ ?_,h1.tw' t2 k2 rfl,(Frm.ofExt x1).then (.ofMod (v:=m.buf) k2) (.refl _ _),.refl _ _⟩
  simp only [Int.reduceEq,decide_false,decide_true,zcf,zct,zad,zaa,zob]
  exact bs e2 rfl
 have m13:M=13:=by omega
 subst m13
 obtain ⟨N,hN⟩:∃ N:Nat,cnt8 (m.r 23)=(N:Int):=⟨(cnt8 (m.r 23)).toNat,by unfold cnt8;split<;>omega⟩
 have hN8:N≤8:=by unfold cnt8 at hN;split at hN<;>omega
 obtain ⟨s2,e2,t2,k2,_⟩:=h1.tw.w (k:=0+77) (x:=.slice none 0 0) _ (by omega) rfl (PM.s77 _ _) rfl
 have h2:Pb B s2 b c { m with buf:=.slice none 0 0 } f []:=⟨t2,SL.nil,h.bB,h.cB,zlt h1.hB k2.next,by rw [k2.lim];exact h1.lB,by simp⟩
 obtain ⟨s4,v,e4,h4,f4,n4⟩:=zoC m.row N hN8 N 0 s2 _ [] h2 rfl rfl (by omega)
 refine ⟨s4,v,start _ ?_,?_,?_,fun i o q r e=>?_⟩
 ·simp only [Int.reduceEq,decide_false,decide_true,zcf,zct,zad,zaa,zob]
  refine bs e2 (bs (zaF (n:=23) (by omega)) (bs (t2.rw.ldR (by omega)) ?_))
  have:(if 8<m.r 23 then 8 else m.r 23)=(N:Int):=hN
  rw [this]
  exact bs e4 rfl
 ·have e2:zkc m l 13 n=(List.range N).map (byt8 m.row):=by
   unfold zkc
   rw [if_neg (by omega),if_pos rfl,hN];rfl
  rw [e2]
  exact h4
 ·refine ⟨zlt x1.next (zlt k2.next f4.next),f4.lim.trans (k2.lim.trans x1.lim),fun i hi hS hno=>?_⟩
  have hi1:i<s1.next:=zll hi x1.next
  exact (f4.keep i (zll hi1 k2.next) hS (fun o q r e=>by cases e)).trans ((k2.keep i hi1 hS).trans (x1.keep i hi))
 ·rcases n4 i o q r e with h5 | h5
  ·exact .inl (zlt x1.next (zlt k2.next h5))
  ·exact absurd (fun o q r e=>by cases e) h5
end
end Go.Proofs.YtlpigjmjgclgiaaDoorE
namespace Go.Proofs.YtlpigjmjgclgiaaDoorE
set_option maxRecDepth 100000
open Go Go.E Go.Proofs
def zd5 (b:Int):Int:=if 32<b then 32 else b
def doR (m:PM) (op a b:Int) (c:Bool) (s:Int):Int×Option Fl×PM:=((doT op a b c s).1,some (doT op a b c s).2.1,{ m with div:=m.div||(decide (op=11)&&!(doT op a b c s).2.2) })
def zaW (m:PM) (f:FM) (OL:List (Int×Int)) (U:Nat) (op a b:Int) (c:Bool) (s:Int):Int×Option Fl×PM:=
 if op=19∨op=20 then (zbP a (IntKind.wrap .i64 (op-18)),none,m)
 else if op=21 then (zai .u32 a 255,none,m)
 else if op=22 then (zai .u32 a 65535,none,m)
 else if op=23 then (zbZ .u32 b (zai .u32 a 31),none,m)
 else if op=24 then (zbm .u32 b (zai .u32 a 31),none,m)
 else if op=25 then ((zdu (IntKind.wrap .u8 a) b).1,some (zdu (IntKind.wrap .u8 a) b).2,m)
 else if op=26 then ((zij (IntKind.wrap .u8 a) b c).1,some (zij (IntKind.wrap .u8 a) b c).2,m)
 else if op=28 then (zbP a m.own,none,m)
 else if op=29 then (ze7 m.row (IntKind.wrap .i64 (zai .u32 a 31)) (IntKind.wrap .i64 (zd5 b)) (decide (m.alu=1)),none,m)
 else if op=30 then (IntKind.wrap .u32 (zik m.row (IntKind.wrap .i64 (zai .u32 a 31)) (IntKind.wrap .i64 (zd5 b)) (getT m f OL U 36)),none,{ m with row:=zik m.row (IntKind.wrap .i64 (zai .u32 a 31)) (IntKind.wrap .i64 (zd5 b)) (getT m f OL U 36) })
 else if op=31 then (zhg a (ownT OL) (match OL[resT OL]? with | some x=>x.2 | none=>4) (decide (m.cls=18)),some (zgh a (ownT OL) (match OL[resT OL]? with | some x=>x.2 | none=>4) (decide (m.cls=18)) c),m)
 else doR m (if op=27 then m.alu else op) a b c s
def outR (d:Nat) (o:Int×Option Fl×PM) (st:SS):Nat×List Value×SS:=match o.2.1 with
 | none=>(0,[ptr d 0,.int .u32 o.1],st)
 | some _=>(1,[.int .u32 o.1,ptr d 0],st)
def rowR (o:Int×Option Fl×PM) (r:List Value):List Value:=match o.2.1 with
 | none=>r
 | some f=>f.row
section
variable {st st' : SS} {b c d U : Nat} {m m' : PM} {f f' : FM} {OL : List (Int × Int)}
theorem wr4 {r:List Value} (h:At st d r) (hr:r.length=4) (fl:Fl):∃ st',st.stV d 0 4 fl.val=some st'∧At st' d fl.row∧Mod [d] st st'∧st'.next=st.next:=
 h.stV (k:=0) (Fl.cells fl) rfl (Fl.one fl) (by rw [zbk (by rw [hr];exact zlr _),List.drop_of_length_le (by rw [hr];exact zlr _)];simp)
theorem Tw.modD (h:Tw st b c m f) (k:Mod [d] st st') (hb:b≠d) (hc:c≠d):Tw st' b c m f:=⟨h.p.mod k (by simp [hb]),h.f.mod k (by simp [hc]),h.fp,h.ne,k.ll h.ll⟩
theorem inD {S:List Nat} (k:Mod [d] st st') (hd:d∈S):Mod S st st':=k.mono (by simp [hd])
theorem reck7 [Sym] (h:Tw st b c m f) {r:List Value} (hd:At st d r) (hr:r.length=4) (hb:b≠d) (hc:c≠d) (op a bb:Int) (cy:Bool) (s:Int):
  ∃ st',zaK 1000007 [ptr b 0,.int .i64 op,.int .u32 a,.int .u32 bb,.int .i64 s,ptr d 0,.bool cy] st=some (0,[.int .u32 (doR m op a bb cy s).1,ptr d 0],st')∧Tw st' b c (doR m op a bb cy s).2.2 f∧At st' d (doT op a bb cy s).2.1.row∧Mod [b,c,d] st st':=by
 obtain ⟨n1,h1,e1⟩:=do_ok op a bb cy s st
 have t1:=h.adv h1
 have a1:=hd.adv h1
 obtain ⟨s6,e6,a6,x6,n6⟩:=zgG (st:=st.adv n1) t1.ll (r:=fl0) (v:=(doT op a bb cy s).2.1.val) (Fl.cells _) (n:=4) rfl (Fl.one _) rfl
 have t6:=t1.ext x6
 have d6:=a1.ext x6
 have l6:(s6.ld b (0+82)).bind asB=some m.div:=by rw [t6.rw.ld,show 0+82=82 from rfl,m.g82];rfl
 have hne:(st.adv n1).next≠b∧(st.adv n1).next≠d:=by have:=t1.p.lt;have:=a1.lt;omega
 have fin:∀ v,v=(m.div||(decide (op=11)&&!(doT op a bb cy s).2.2))→∃ s12 s15,s6.st b (0+82) [.bool v]=some s12∧s12.ldN (st.adv n1).next 0 4=some (doT op a bb cy s).2.1.val∧s12.stV d 0 4 (doT op a bb cy s).2.1.val=some s15∧Tw s15 b c (doR m op a bb cy s).2.2 f∧At s15 d (doT op a bb cy s).2.1.row∧Mod [b,c,d] st s15:=fun v hv=>by
  obtain ⟨s12,e12,t12,k12,_⟩:=t6.w (k:=0+82) (x:=.bool v) _ (by omega) rfl (PM.s82 _ v) rfl
  have a12:At s12 (st.adv n1).next _:=a6.mod k12 (by intro hh;simp only [List.mem_cons,List.not_mem_nil,or_false] at hh;have:=t1.p.lt;have:=t1.f.lt;omega)
  have d12:At s12 d r:=d6.mod k12 (by simp [Ne.symm hb,Ne.symm hc])
  obtain ⟨s15,e15,d15,k15,_⟩:=wr4 d12 hr (doT op a bb cy s).2.1
  refine ⟨s12,s15,e12,a12.ldN rfl,e15,?_,d15,(((Mod.ofExt (Ext.advR st h1)).then (.ofExt x6)).then (k12.mono (by simp))).then (inD k15 (by simp))⟩
  have:=t12.modD k15 hb hc
  rw [hv] at this;exact this
 cases hdv:m.div with
 | true=>
   obtain ⟨s12,s15,e12,e13,e15,q⟩:=fin true (by rw [hdv];rfl)
   refine ⟨s15,zbQ _ _ _ _ _ _ _ st ?_,q⟩
   unfold zbE
   refine bs e1 (bs (a:=(doT op a bb cy s).1) rfl (bs (a:=(doT op a bb cy s).2.1.val) rfl (bs (a:=(doT op a bb cy s).2.2) rfl (bs e6 ?_))))
   simp only [zad,zaa,zob]
   refine bs l6 ?_
   rw [hdv,zct]
   exact bs e12 (bs e13 (bs e15 rfl))
 | false=>
   by_cases h11:op=11
   ·obtain ⟨s12,s15,e12,e13,e15,q⟩:=fin (!(doT op a bb cy s).2.2) (by rw [hdv,zdt h11];rfl)
    refine ⟨s15,zbQ _ _ _ _ _ _ _ st ?_,q⟩
    unfold zbE
    refine bs e1 (bs (a:=(doT op a bb cy s).1) rfl (bs (a:=(doT op a bb cy s).2.1.val) rfl (bs (a:=(doT op a bb cy s).2.2) rfl (bs e6 ?_))))
    simp only [zad,zaa,zob]
    refine bs l6 ?_
    rw [hdv,zcf,zdt h11,zct]
    exact bs e12 (bs e13 (bs e15 rfl))
   ·obtain ⟨s12,s15,e12,e13,e15,q⟩:=fin false (by rw [hdv,zdf h11];rfl)
    refine ⟨s15,zbQ _ _ _ _ _ _ _ st ?_,q⟩
    unfold zbE
    refine bs e1 (bs (a:=(doT op a bb cy s).1) rfl (bs (a:=(doT op a bb cy s).2.1.val) rfl (bs (a:=(doT op a bb cy s).2.2) rfl (bs e6 ?_))))
    simp only [zad,zaa,zob]
    refine bs l6 ?_
    rw [hdv,zcf,zdf h11,zcf]
    exact bs e12 (bs e13 (bs e15 rfl))
end
end Go.Proofs.YtlpigjmjgclgiaaDoorE
namespace Go.Proofs.YtlpigjmjgclgiaaDoorE
set_option maxRecDepth 100000
open Go Go.E Go.Proofs
section
variable {st st' : SS} {b c d U : Nat} {m m' : PM} {f f' : FM} {OL : List (Int × Int)}
def zlw (st:SS) (b c d:Nat) (m:PM) (f:FM) (OL:List (Int×Int)) (U:Nat) (r:List Value) (op a bb:Int) (cy:Bool) (s:Int) (x:Option (Nat×List Value×SS)):Prop:=
 ∃ st',x=some (outR d (zaW m f OL U op a bb cy s) st')∧Tw st' b c (zaW m f OL U op a bb cy s).2.2 f∧At st' d (rowR (zaW m f OL U op a bb cy s) r)∧Mod [b,c,d] st st'
theorem zdy [Sym] (h:Tw st b c m f) {r:List Value} (hd:At st d r) {op a bb:Int} {cy:Bool} {s x:Int} {n:Nat} (hn:st.next≤n) (hR:zaW m f OL U op a bb cy s=(x,none,m)):
  zlw st b c d m f OL U r op a bb cy s (some (0,[ptr d 0,.int .u32 x],st.adv n)):=by
 refine ⟨st.adv n,?_,?_,?_,.ofExt (Ext.advR st hn)⟩
 ·rw [hR];rfl
 ·rw [hR];exact h.adv hn
 ·rw [hR];exact hd.adv hn
theorem zi2 [Sym] (h:Tw st b c m f) {r:List Value} (hd:At st d r) (hr:r.length=4) (hb:b≠d) (hc:c≠d) {op a bb:Int} {cy:Bool} {s x:Int} {fl:Fl} {n:Nat} (hn:st.next≤n) (hR:zaW m f OL U op a bb cy s=(x,some fl,m)):
  ∃ st',(st.adv n).stV d 0 4 fl.val=some st'∧zlw st b c d m f OL U r op a bb cy s (some (1,[.int .u32 x,ptr d 0],st')):=by
 obtain ⟨s1,e1,a1,k1,_⟩:=wr4 (hd.adv hn) hr fl
 refine ⟨s1,e1,s1,?_,?_,?_,(Mod.ofExt (Ext.advR st hn)).then (inD k1 (by simp))⟩
 ·rw [hR];rfl
 ·rw [hR];exact (h.adv hn).modD k1 hb hc
 ·rw [hR];exact a1
theorem zlw.bind {x y:Option (Nat×List Value×SS)} {r:List Value} {op a bb:Int} {cy:Bool} {s:Int} (h:zlw st b c d m f OL U r op a bb cy s x) (e:y=x):zlw st b c d m f OL U r op a bb cy s y:=by rw [e];exact h
theorem zp2 (x:Int):0≤zai .u32 x 31:=by unfold zai;exact zi0 rfl _
theorem reck12 [Sym] (h:Tw st b c m f) (hO:Os st m OL) (hU:lenV m.buf=some (.int .i64 (U:Int))) {r:List Value} (hd:At st d r) (hr:r.length=4) (hb:b≠d) (hc:c≠d) (op a bb:Int) (cy:Bool) (s:Int) (t:Bool) (ht:t=true↔op=19∨op=20):
  ∃ st',zaK 1000012 [ptr b 0,.int .i64 op,.int .u32 a,.int .u32 bb,.int .i64 s,ptr d 0,.bool cy,.int .i64 op,.bool t] st=some (outR d (zaW m f OL U op a bb cy s) st')∧Tw st' b c (zaW m f OL U op a bb cy s).2.2 f∧At st' d (rowR (zaW m f OL U op a bb cy s) r)∧Mod [b,c,d] st st':=by
 have key:∀ x,zlw st b c d m f OL U r op a bb cy s x→zaz cc zaK (ptr b 0) op a bb s (ptr d 0) cy op t st=x→
   ∃ st',zaK 1000012 [ptr b 0,.int .i64 op,.int .u32 a,.int .u32 bb,.int .i64 s,ptr d 0,.bool cy,.int .i64 op,.bool t] st=some (outR d (zaW m f OL U op a bb cy s) st')∧Tw st' b c (zaW m f OL U op a bb cy s).2.2 f∧At st' d (rowR (zaW m f OL U op a bb cy s) r)∧Mod [b,c,d] st st':=fun x hx e=>by
  obtain ⟨s',e1,q⟩:=hx
  exact ⟨s',zfE _ _ _ _ _ _ _ _ _ st (e.trans e1),q⟩
 by_cases h1:op=19∨op=20
 ·have:t=true:=ht.2 h1
  subst this
  obtain ⟨n,hn,e⟩:=zcq a (IntKind.wrap .i64 (op-18)) st
  refine key _ (zdy h hd hn (x:=zbP a (IntKind.wrap .i64 (op-18))) (by unfold zaW;rw [if_pos h1])) ?_
  unfold zaz
  rw [zct]
  exact bs e rfl
 have:t=false:=by cases t with | false=>rfl | true=>exact absurd (ht.1 rfl) h1
 subst this
 by_cases h21:op=21
 ·subst h21
  refine key _ (zdy h hd (zlr _) (x:=zai .u32 a 255) (by unfold zaW;simp only [Int.reduceEq,or_self,if_false,if_true])) ?_
  unfold zaz
  simp only [Int.reduceEq,decide_false,decide_true,zcf,zct]
  rfl
 by_cases h22:op=22
 ·subst h22
  refine key _ (zdy h hd (zlr _) (x:=zai .u32 a 65535) (by unfold zaW;simp only [Int.reduceEq,or_self,if_false,if_true])) ?_
  unfold zaz
  simp only [Int.reduceEq,decide_false,decide_true,zcf,zct]
  rfl
 by_cases h23:op=23
 ·subst h23
  refine key _ (zdy h hd (zlr _) (x:=zbZ .u32 bb (zai .u32 a 31)) (by unfold zaW;simp only [Int.reduceEq,or_self,if_false,if_true])) ?_
  unfold zaz
  simp only [Int.reduceEq,decide_false,decide_true,zcf,zct]
  rw [zda (zp2 a)];rfl
 by_cases h24:op=24
 ·subst h24
  refine key _ (zdy h hd (zlr _) (x:=zbm .u32 bb (zai .u32 a 31)) (by unfold zaW;simp only [Int.reduceEq,or_self,if_false,if_true])) ?_
  unfold zaz
  simp only [Int.reduceEq,decide_false,decide_true,zcf,zct]
  rw [zfA (zp2 a)];rfl
 by_cases h25:op=25
 ·subst h25
  obtain ⟨n,hn,e⟩:=ash_ok (IntKind.wrap .u8 a) bb st
  obtain ⟨s1,e1,q⟩:=zi2 h hd hr hb hc hn (op:=25) (a:=a) (bb:=bb) (cy:=cy) (s:=s) (OL:=OL) (U:=U) (x:=(zdu (IntKind.wrap .u8 a) bb).1) (fl:=(zdu (IntKind.wrap .u8 a) bb).2) (by unfold zaW;simp only [Int.reduceEq,or_self,if_false,if_true])
  refine key _ q ?_
  unfold zaz
  simp only [Int.reduceEq,decide_false,decide_true,zcf,zct]
  refine bs e (bs (a:=(zdu (IntKind.wrap .u8 a) bb).1) rfl (bs (a:=(zdu (IntKind.wrap .u8 a) bb).2.val) rfl ?_))
  simp only [zaa,zob]
  exact bs e1 rfl
 by_cases h26:op=26
 ·subst h26
  obtain ⟨n,hn,e⟩:=rot_ok (IntKind.wrap .u8 a) bb cy st
  obtain ⟨s1,e1,q⟩:=zi2 h hd hr hb hc hn (op:=26) (a:=a) (bb:=bb) (cy:=cy) (s:=s) (OL:=OL) (U:=U) (x:=(zij (IntKind.wrap .u8 a) bb cy).1) (fl:=(zij (IntKind.wrap .u8 a) bb cy).2) (by unfold zaW;simp only [Int.reduceEq,or_self,if_false,if_true])
  refine key _ q ?_
  unfold zaz
  simp only [Int.reduceEq,decide_false,decide_true,zcf,zct]
  refine bs e (bs (a:=(zij (IntKind.wrap .u8 a) bb cy).1) rfl (bs (a:=(zij (IntKind.wrap .u8 a) bb cy).2.val) rfl ?_))
  simp only [zaa,zob]
  exact bs e1 rfl
 have l75:(st.ld b (0+75)).bind (asI .i64)=some m.own:=by rw [h.rw.ld,show 0+75=75 from rfl,m.g75];rfl
 have l76:(st.ld b (0+76)).bind (asI .u64)=some m.row:=by rw [h.rw.ld,show 0+76=76 from rfl,m.g76];rfl
 have l70:(st.ld b (0+67+3)).bind (asI .i64)=some m.alu:=by rw [h.rw.ld,show 0+67+3=70 from rfl,m.g70];rfl
 have l69:(st.ld b (0+67+2)).bind (asI .i64)=some m.cls:=by rw [h.rw.ld,show 0+67+2=69 from rfl,m.g69];rfl
 have l71:st.ld b (0+67+4)=some m.ops:=by rw [h.rw.ld];exact m.g71
 by_cases h28:op=28
 ·subst h28
  obtain ⟨n,hn,e⟩:=zcq a m.own st
  refine key _ (zdy h hd hn (x:=zbP a m.own) (by unfold zaW;simp only [Int.reduceEq,or_self,if_false,if_true])) ?_
  unfold zaz
  simp only [Int.reduceEq,decide_false,decide_true,zcf,zct,zad,zaa,zob]
  exact bs l75 (bs e rfl)
 by_cases h29:op=29
 ·subst h29
  obtain ⟨n,hn,e⟩:=zrj m.row (IntKind.wrap .i64 (zai .u32 a 31)) (IntKind.wrap .i64 (zd5 bb)) (decide (m.alu=1)) st
  refine key _ (zdy h hd hn (x:=ze7 m.row (IntKind.wrap .i64 (zai .u32 a 31)) (IntKind.wrap .i64 (zd5 bb)) (decide (m.alu=1))) (by unfold zaW;simp only [Int.reduceEq,or_self,if_false,if_true])) ?_
  unfold zaz
  simp only [Int.reduceEq,decide_false,decide_true,zcf,zct,zad,zaa,zob]
  exact bs l76 (bs l70 (bs e rfl))
 by_cases h30:op=30
 ·subst h30
  obtain ⟨k,hk,e46⟩:=znr (h.rw.ro st.next) hO.ro hU 36
  have hk':st.next≤k:=hk
  have t1:=h.adv hk'
  obtain ⟨n,hn,e48⟩:=ins_ok m.row (IntKind.wrap .i64 (zai .u32 a 31)) (IntKind.wrap .i64 (zd5 bb)) (getT m f OL U 36) (st.adv k)
  have t2:=t1.adv hn
  obtain ⟨s3,e3,t3,k3,_⟩:=t2.w (k:=0+76) (x:=.int .u64 (zik m.row (IntKind.wrap .i64 (zai .u32 a 31)) (IntKind.wrap .i64 (zd5 bb)) (getT m f OL U 36))) _ (by omega) rfl (PM.s76 _ _) rfl
  have l55:(s3.ld b (0+76)).bind (asI .u64)=some (zik m.row (IntKind.wrap .i64 (zai .u32 a 31)) (IntKind.wrap .i64 (zd5 bb)) (getT m f OL U 36)):=by rw [t3.rw.ld,show 0+76=76 from rfl,PM.g76];rfl
  have hR:zaW m f OL U 30 a bb cy s=(IntKind.wrap .u32 (zik m.row (IntKind.wrap .i64 (zai .u32 a 31)) (IntKind.wrap .i64 (zd5 bb)) (getT m f OL U 36)),none,{ m with row:=zik m.row (IntKind.wrap .i64 (zai .u32 a 31)) (IntKind.wrap .i64 (zd5 bb)) (getT m f OL U 36) }):=by unfold zaW;simp only [Int.reduceEq,or_self,if_false,if_true]
  refine key (some (0,[ptr d 0,.int .u32 (IntKind.wrap .u32 (zik m.row (IntKind.wrap .i64 (zai .u32 a 31)) (IntKind.wrap .i64 (zd5 bb)) (getT m f OL U 36)))],s3)) ⟨s3,by rw [hR];rfl,by rw [hR];exact t3,?_,((Mod.ofExt (Ext.advR st hk')).then (.ofExt (Ext.advR _ hn))).then (k3.mono (by simp))⟩ ?_
  ·rw [hR];exact ((hd.adv hk').adv hn).mod k3 (by simp [Ne.symm hb,Ne.symm hc])
  unfold zaz
  simp only [Int.reduceEq,decide_false,decide_true,zcf,zct,zad,zaa,zob]
  refine bs l76 (bs e46 ?_)
  simp only [zob,zac]
  rw [show ((st.ro st.next).adv k).ro st.lim=st.adv k from rfl]
  refine bs e48 ?_
  simp only [zob,zac]
  exact bs e3 (bs l55 rfl)
 by_cases h31:op=31
 ·subst h31
  cases OL with
  | nil=>
    obtain ⟨n,hn,e⟩:=zpY a 4 4 (decide (m.cls=18)) cy st
    obtain ⟨s1,e1,q⟩:=zi2 h hd hr hb hc hn (op:=31) (a:=a) (bb:=bb) (cy:=cy) (s:=s) (OL:=[]) (U:=U) (x:=zhg a 4 4 (decide (m.cls=18))) (fl:=zgh a 4 4 (decide (m.cls=18)) cy) (by unfold zaW;simp only [Int.reduceEq,or_self,if_false,if_true];rfl)
    refine key _ q ?_
    unfold zaz
    simp only [Int.reduceEq,decide_false,decide_true,zcf,zct,zad,zaa,zob]
    refine bs l71 (bs hO.1.lenI ?_)
    rw [zdf (show ¬ (0:Int)<(([]:List (Int×Int)).length:Int) by simp),zcf]
    refine bs l69 (bs e (bs (a:=zhg a 4 4 (decide (m.cls=18))) rfl (bs (a:=(zgh a 4 4 (decide (m.cls=18)) cy).val) rfl (bs e1 rfl))))
  | cons x0 rest=>
    have hlen:0<(x0::rest).length:=by simp
    have hrt:=zlp hlen
    have hx:(x0::rest)[resT (x0::rest)]?=some ((x0::rest)[resT (x0::rest)]):=zge hrt
    obtain ⟨p0,a0,_,c0⟩:=hO.1.load (j:=((0:Nat):Int)) (by omega) (by omega) (zdE zdM (x0::rest) 0 x0 rfl) (zdM x0)
    obtain ⟨p1,a1,_,c1⟩:=hO.1.load (j:=((resT (x0::rest):Nat):Int)) (by omega) (by omega) (zdE zdM (x0::rest) _ _ hx) (zdM _)
    have e69:=zkT (h.rw.ro st.next) hO.ro
    obtain ⟨n,hn,e⟩:=zpY a x0.2 ((x0::rest)[resT (x0::rest)]).2 (decide (m.cls=18)) cy st
    obtain ⟨s1,e1,q⟩:=zi2 h hd hr hb hc hn (op:=31) (a:=a) (bb:=bb) (cy:=cy) (s:=s) (OL:=x0::rest) (U:=U) (x:=zhg a x0.2 ((x0::rest)[resT (x0::rest)]).2 (decide (m.cls=18))) (fl:=zgh a x0.2 ((x0::rest)[resT (x0::rest)]).2 (decide (m.cls=18)) cy) (by unfold zaW;simp only [Int.reduceEq,or_self,if_false,if_true];rw [hx];rfl)
    refine key _ q ?_
    unfold zaz
    simp only [Int.reduceEq,decide_false,decide_true,zcf,zct,zad,zaa,zob]
    refine bs l71 (bs hO.1.lenI ?_)
    rw [zdt (show (0:Int)<((x0::rest).length:Int) by omega),zct]
    refine bs l71 (bs a0 (bs (a:=x0.2) (by rw [c0 1 (.int .i64 x0.2) rfl];rfl) (bs l71 (bs e69 ?_))))
    simp only [zob,zac]
    refine bs a1 ?_
    rw [show (st.ro st.next).ro st.lim=st from rfl]
    refine bs (a:=((x0::rest)[resT (x0::rest)]).2) (by rw [c1 1 (.int .i64 ((x0::rest)[resT (x0::rest)]).2) rfl];rfl) (bs l69 (bs e ?_))
    exact bs (a:=zhg a x0.2 ((x0::rest)[resT (x0::rest)]).2 (decide (m.cls=18))) rfl (bs (a:=(zgh a x0.2 ((x0::rest)[resT (x0::rest)]).2 (decide (m.cls=18)) cy).val) rfl (bs e1 rfl))
 have hR:zaW m f OL U op a bb cy s=doR m (if op=27 then m.alu else op) a bb cy s:=by
  unfold zaW
  rw [if_neg h1,if_neg h21,if_neg h22,if_neg h23,if_neg h24,if_neg h25,if_neg h26,if_neg h28,if_neg h29,if_neg h30,if_neg h31]
 obtain ⟨s1,e1,t1,a1,k1⟩:=reck7 h hd hr hb hc (if op=27 then m.alu else op) a bb cy s
 refine key (some (1,[.int .u32 (doR m (if op=27 then m.alu else op) a bb cy s).1,ptr d 0],s1)) ⟨s1,by rw [hR];rfl,by rw [hR];exact t1,by rw [hR];exact a1,k1⟩ ?_
 unfold zaz
 by_cases h27:op=27
 ·simp only [h21,h22,h23,h24,h25,h26,h28,h29,h30,h31,decide_false,zcf]
  rw [if_pos h27] at e1 ⊢
  rw [zdt h27,zct]
  simp only [zad,zaa,zob]
  exact bs l70 (bs e1 rfl)
 ·simp only [h21,h22,h23,h24,h25,h26,h28,h29,h30,h31,decide_false,zcf]
  rw [if_neg h27] at e1 ⊢
  rw [zdf h27,zcf]
  exact bs e1 rfl
end
end Go.Proofs.YtlpigjmjgclgiaaDoorE
namespace Go.Proofs.YtlpigjmjgclgiaaDoorE
set_option maxRecDepth 100000
open Go Go.E Go.Proofs
def flR (o:Int×Option Fl×PM):Fl:=match o.2.1 with
 | none=>zay o.1 4
 | some f=>f
section
variable {st st' s1 : SS} {b c d U : Nat} {m m' : PM} {f f' : FM} {OL : List (Int × Int)}
theorem flC (x:Int):(zjF Lk0 58 3 (zbr x).val).bind asB=some (zbr x).c:=by
 have:∀ n z v cc:Bool,(zjF Lk0 58 3 (.agg #[.bool n,.bool z,.bool v,.bool cc])).bind asB=some cc:=by
  intro n z v cc;kernel_rfl
 exact this _ _ _ _
theorem znz {ob:AObj} (k:Mod [b,c,st.next] (st.new ob) st'):Mod [b,c] st st':=(Mod.ofExt ((Ext.refl st).new ob)).trans k fun j hj hlt=>by
 simp only [List.mem_cons,List.not_mem_nil,or_false] at hj ⊢
 rcases hj with h | h | h
 ·exact .inl h
 ·exact .inr h
 ·omega
theorem Mod.pre {S:List Nat} (h:Ext st s1) (k:Mod S s1 st'):Mod S st st':=(Mod.ofExt h).then k
theorem zp3 [Sym] (h:Tw st b c m f) (hO:Os st m OL) (hU:lenV m.buf=some (.int .i64 (U:Int))) (op a bb s:Int):
  ∃ st',cc 23 [ptr b 0,.int .i64 op,.int .u32 a,.int .u32 bb,.int .i64 s] st=some (.tuple #[.int .u32 (zaW m f OL U op a bb (zbr f.psl).c s).1,(flR (zaW m f OL U op a bb (zbr f.psl).c s)).val],st')∧Tw st' b c (zaW m f OL U op a bb (zbr f.psl).c s).2.2 f∧Mod [b,c] st st':=by
 have h1:=h.new (.cells fl0 0)
 have x1:Ext st (st.new (.cells fl0 0)):=(Ext.refl st).new _
 have d1:At (st.new (.cells fl0 0)) st.next fl0:=At.new h.ll _
 have e5:=zdL (st:=st.new (.cells fl0 0)) h1.f.mem
 obtain ⟨n7,hn7,e7⟩:=zng f.psl (st.new (.cells fl0 0))
 have h7:=h1.adv hn7
 have d7:=d1.adv hn7
 have hb:b≠st.next:=by have:=h.p.lt;omega
 have hc:c≠st.next:=by have:=h.f.lt;omega
 have x7:Ext st ((st.new (.cells fl0 0)).adv n7):=x1.trans (Ext.advR _ hn7)
 have hO7:Os ((st.new (.cells fl0 0)).adv n7) m OL:=⟨hO.1.ext x7,hO.2⟩
 obtain ⟨R,hR⟩:∃ R,R=zaW m f OL U op a bb (zbr f.psl).c s:=⟨_,rfl⟩
 have both:∀ t,(t=true↔op=19∨op=20)→∃ st',((zaK 1000012 [ptr b 0,.int .i64 op,.int .u32 a,.int .u32 bb,.int .i64 s,ptr st.next 0,.bool (zbr f.psl).c,.int .i64 op,.bool t] ((st.new (.cells fl0 0)).adv n7)).bind fun r9=>
   cond (Nat.beq r9.1 0) (
    (r9.2.1[0]?).bind fun v10=>
    ((r9.2.1[1]?).bind (asI .u32)).bind fun n11=>
    (cc 50 [.int .u32 n11,.int .i64 4] r9.2.2).bind fun r12=>
    (addr? v10).bind fun p13=>
    (r12.2.stV p13.1 p13.2 4 r12.1).bind fun st14=>
    (addr? v10).bind fun p15=>
    (st14.rdN p15.1 p15.2 4).bind fun v16=>
    some (Value.tuple #[.int .u32 n11,v16],st14)) (
    ((r9.2.1[0]?).bind (asI .u32)).bind fun n17=>
    (r9.2.1[1]?).bind fun v18=>
    (addr? v18).bind fun p19=>
    (r9.2.2.rdN p19.1 p19.2 4).bind fun v20=>
    some (Value.tuple #[.int .u32 n17,v20],r9.2.2)))=some (.tuple #[.int .u32 R.1,(flR R).val],st')∧Tw st' b c R.2.2 f∧Mod [b,c] st st':=fun t ht=>by
  obtain ⟨s2,e2,t2,d2,k2⟩:=reck12 h7 hO7 hU d7 rfl hb hc op a bb (zbr f.psl).c s t ht
  rw [← hR] at e2 t2 d2
  have kk:Mod [b,c,st.next] (st.new (.cells fl0 0)) s2:=Mod.pre (Ext.advR _ hn7) k2
  obtain ⟨x,o,mm⟩:=R
  cases o with
  | none=>
    obtain ⟨n3,hn3,e3⟩:=zdr x 4 s2
    have d3:At (s2.adv n3) st.next fl0:=d2.adv hn3
    obtain ⟨s4,e4,a4,k4,_⟩:=wr4 d3 rfl (zay x 4)
    refine ⟨s4,?_,(t2.adv hn3).modD k4 hb hc,znz ((kk.then (.ofExt (Ext.advR _ hn3))).then (inD k4 (by simp)))⟩
    rw [e2,zob]
    show cond (Nat.beq 0 0) _ _=_
    rw [show Nat.beq 0 0=true from rfl,zct]
    refine bs (x:=[ptr st.next 0,Value.int .u32 x][0]?) (a:=ptr st.next 0) rfl ?_
    refine bs (x:=([ptr st.next 0,Value.int .u32 x][1]?).bind (asI .u32)) (a:=x) rfl ?_
    refine bs e3 ?_
    simp only [zaa,zob]
    exact bs e4 (bs (a4.rdN rfl) rfl)
  | some fl=>
    refine ⟨s2,?_,t2,znz kk⟩
    rw [e2,zob]
    show cond (Nat.beq 1 0) _ _=_
    rw [show Nat.beq 1 0=false from rfl,zcf]
    refine bs (x:=([Value.int .u32 x,ptr st.next 0][0]?).bind (asI .u32)) (a:=x) rfl ?_
    refine bs (x:=[Value.int .u32 x,ptr st.next 0][1]?) (a:=ptr st.next 0) rfl ?_
    simp only [zaa,zob]
    have d2':At s2 st.next fl.row:=d2
    exact bs (d2'.rdN rfl) rfl
 rw [← hR]
 by_cases h19:op=19
 ·obtain ⟨s',e,q⟩:=both true (by simp [h19])
  refine ⟨s',zd1 _ _ _ _ _ st ?_,q⟩
  unfold zc5
  simp only [zad,zaa,zob]
  refine bs h1.rw.ld0 (bs e5 ?_)
  simp only [zob,zac]
  refine bs e7 (bs (flC _) ?_)
  rw [zdt h19,zct]
  exact e
 ·obtain ⟨s',e,q⟩:=both (decide (op=20)) (by simp [h19])
  refine ⟨s',zd1 _ _ _ _ _ st ?_,q⟩
  unfold zc5
  simp only [zad,zaa,zob]
  refine bs h1.rw.ld0 (bs e5 ?_)
  simp only [zob,zac]
  refine bs e7 (bs (flC _) ?_)
  rw [zdf h19,zcf]
  exact e
def zbW (f:FM) (fl:Fl) (how:Int):FM:=if how=1 then putF f (zhh f.psl fl) else if how=2 then putF f (zhh f.psl { fl with c:=(zbr f.psl).c }) else f
theorem zp4 [Sym] (h:Tw st b c m f) (fl:Fl) (how:Int):∃ st',cc 24 [ptr b 0,fl.val,.int .i64 how] st=some (.tuple #[],st')∧Tw st' b c m (zbW f fl how)∧Mod [b,c] st st':=by
 have h1:=h.new (.cells fl.row 0)
 have x1:Ext st (st.new (.cells fl.row 0)):=(Ext.refl st).new _
 have d1:At (st.new (.cells fl.row 0)) st.next fl.row:=At.new h.ll _
 have hb:b≠st.next:=by have:=h.p.lt;omega
 have hc:c≠st.next:=by have:=h.f.lt;omega
 have tail:∀ (s:SS) (g:Fl),Tw s b c m f→At s st.next g.row→(how=1∨how=2)→∃ s',zbN 1000004 [ptr b 0,.int .i64 how,ptr st.next 0] s=some (0,[],s')∧Tw s' b c m (putF f (zhh f.psl g))∧Mod [c] s s':=fun s g ts ds hh=>by
  have e7:=zdL (st:=s.ro s.next) ts.f.mem
  obtain ⟨k,hk,e11⟩:=zrk f.psl g (s.ro s.next)
  have hk':s.next≤k:=hk
  obtain ⟨s',e13,a13,k13⟩:=zgM (ts.f.adv hk') (zhh f.psl g)
  refine ⟨s',zde _ _ _ s ?_,(ts.adv hk').modC a13 k13,(Mod.ofExt (Ext.advR s hk')).then k13⟩
  unfold zcz
  rcases hh with rfl | rfl
  ·simp only [Int.reduceEq,decide_true,zct,zad,zaa,zob]
   refine bs ts.rw.ld0 (bs ts.rw.ld0 (bs e7 ?_))
   simp only [zob,zac]
   rw [show (s.ro s.next).ro s.lim=s from rfl]
   refine bs (show s.ldN st.next 0 4=some g.val from ds.ldN rfl) (bs e11 ?_)
   simp only [zob,zac]
   rw [show ((s.ro s.next).adv k).ro s.lim=s.adv k from rfl]
   exact bs e13 rfl
  ·simp only [Int.reduceEq,decide_true,decide_false,zct,zcf,zad,zaa,zob]
   refine bs ts.rw.ld0 (bs ts.rw.ld0 (bs e7 ?_))
   simp only [zob,zac]
   rw [show (s.ro s.next).ro s.lim=s from rfl]
   refine bs (show s.ldN st.next 0 4=some g.val from ds.ldN rfl) (bs e11 ?_)
   simp only [zob,zac]
   rw [show ((s.ro s.next).adv k).ro s.lim=s.adv k from rfl]
   exact bs e13 rfl
 by_cases h2:how=2
 ·subst h2
  have e5:=zdL (st:=st.new (.cells fl.row 0)) h1.f.mem
  obtain ⟨n7,hn7,e7⟩:=zng f.psl (st.new (.cells fl.row 0))
  obtain ⟨s9,e9,a9,k9,_⟩:=(d1.adv hn7).w (k:=3) (x:=.bool (zbr f.psl).c) (row':=Fl.row { fl with c:=(zbr f.psl).c }) (by show 3<4;omega) rfl rfl
  have t9:=(h1.adv hn7).modD k9 hb hc
  obtain ⟨s10,e10,t10,k10⟩:=tail s9 _ t9 a9 (.inr rfl)
  refine ⟨s10,zcy _ _ _ st ?_,by unfold zbW;rw [if_neg (by omega),if_pos rfl];exact t10,?_⟩
  ·unfold zcm
   rw [show fl.val.cells.toList=fl.row from rfl]
   simp only [decide_true,zct,zad,zaa,zob]
   refine bs h1.rw.ld0 (bs e5 ?_)
   simp only [zob,zac]
   exact bs e7 (bs (flC _) (bs e9 (bs e10 rfl)))
  ·exact znz ((Mod.pre (Ext.advR _ hn7) (inD k9 (by simp))).then (k10.mono (by simp)))
 by_cases h1':how=1
 ·subst h1'
  obtain ⟨s10,e10,t10,k10⟩:=tail _ fl h1 d1 (.inl rfl)
  refine ⟨s10,zcy _ _ _ st ?_,by unfold zbW;rw [if_pos rfl];exact t10,(Mod.ofExt x1).then (inC k10)⟩
  unfold zcm
  rw [show fl.val.cells.toList=fl.row from rfl]
  simp only [Int.reduceEq,decide_false,zcf]
  exact bs e10 rfl
 ·refine ⟨st.new (.cells fl.row 0),zcy _ _ _ st ?_,by unfold zbW;rw [if_neg h1',if_neg h2];exact h1,.ofExt x1⟩
  unfold zcm
  rw [show fl.val.cells.toList=fl.row from rfl,zdf h2]
  simp only [zcf]
  refine bs (a:=(0,[],st.new (.cells fl.row 0))) (zde _ _ _ _ ?_) rfl
  unfold zcz
  rw [zdf h1',zcf,zdf h2,zcf]
end
end Go.Proofs.YtlpigjmjgclgiaaDoorE
namespace Go.Proofs.YtlpigjmjgclgiaaDoorE
open Go Go.E Go.Proofs
def U32 (x:Int):Prop:=0≤x∧x<4294967296
theorem U32.wrap (x:Int):U32 (IntKind.wrap .u32 x):=zpU x
theorem U32.and (x y:Int):U32 (zai .u32 x y):=U32.wrap _
theorem U32.or (x y:Int):U32 (orI .u32 x y):=U32.wrap _
theorem U32.xor (x y:Int):U32 (zbd .u32 x y):=U32.wrap _
theorem U32.andNot (x y:Int):U32 (zbj .u32 x y):=U32.wrap _
theorem U32.shl (x y:Int):U32 (zbZ .u32 x y):=U32.wrap _
theorem U32.zero:U32 0:=⟨by omega,by omega⟩
theorem U32.shr {x:Int} (h:U32 x) (y:Int):U32 (zbm .u32 x y):=by
 obtain ⟨a,rfl⟩:∃ a:Nat,x=(a:Int):=⟨x.toNat,by have:=h.1;omega⟩
 unfold zbm
 have hp:(2:Int)^(min y.toNat IntKind.u32.bits)=((2^(min y.toNat 32):Nat):Int):=by rw [Int.natCast_pow];rfl
 rw [hp,Int.fdiv_eq_ediv_of_nonneg _ (Int.natCast_nonneg _),← Int.natCast_ediv]
 have h1:=h.2
 have h2:a/2^(min y.toNat 32)≤a:=Nat.div_le_self _ _
 generalize a/2^(min y.toNat 32)=q at h2
 exact ⟨by omega,by omega⟩
theorem U32.ite {p:Prop} [Decidable p] {x y:Int} (h:U32 x) (k:U32 y):U32 (if p then x else y):=by split<;>assumption
theorem U32.cond {q:Bool} {x y:Int} (h:U32 x) (k:U32 y):U32 (cond q x y):=by cases q<;>assumption
theorem U32.ext (a s:Int):U32 (zbP a s):=.cond (.or _ _) (.and _ _)
theorem U32.put (o x s:Int):U32 (zlm o x s):=.or _ _
theorem U32.add (a b:Int) (c:Bool) (s:Int):U32 (zeq a b c s).1:=U32.wrap _
theorem U32.sub (a b:Int) (c:Bool) (s:Int):U32 (zcZ a b c s).1:=U32.add _ _ _ _
theorem U32.itef {β:Type} {p:Prop} [Decidable p] {x y:Int×β} (h:U32 x.1) (k:U32 y.1):U32 (if p then x else y).1:=by split<;>assumption
theorem U32.do' (op a b:Int) (c:Bool) (s:Int):U32 (doT op a b c s).1:=by
 unfold doT
 exact .itef (.and _ _) (.itef (.sub _ _ _ _) (.itef (.add _ _ _ _) (.itef (.sub _ _ _ _) (.itef (.add _ _ _ _) (.itef (.sub _ _ _ _) (.itef (.add _ _ _ _) (.itef (.sub _ _ _ _) (.itef (.and _ _) (.itef (.cond (.and _ _) (.and _ _)) (.itef (.and _ _) (.itef (.and _ _) .zero)))))))))))
theorem U32.ash (x y:Int):U32 (zdu x y).1:=by
 unfold zdu
 exact .itef (.wrap _) (.ite (.wrap _) .zero)
theorem U32.reck {m:PM} {f:FM} {OL:List (Int×Int)} {U:Nat} {op a b:Int} {c:Bool} {s:Int} (hb:U32 b):U32 (zaW m f OL U op a b c s).1:=by
 unfold zaW
 exact .itef (.ext _ _) (.itef (.and _ _) (.itef (.and _ _) (.itef (.shl _ _) (.itef (.shr hb _) (.itef (.ash _ _) (.itef (.or _ _) (.itef (.ext _ _) (.itef (.ite (.wrap _) (.wrap _)) (.itef (.wrap _) (.itef (.and _ _) (.do' _ _ _ _ _)))))))))))
structure Rng (m:PM) (f:FM):Prop where
 r:∀ i,U32 (m.r i)
 wx:U32 m.wx
 was:U32 m.was
 fr:∀ i,U32 (f.r i)
 psl:U32 f.psl
 ksp:U32 f.ksp
 usp:U32 f.usp
section
variable {m : PM} {f : FM} {OL : List (Int × Int)} {U : Nat}
theorem U32.up {r:Nat→Int} (h:∀ i,U32 (r i)) (k:Nat) {x:Int} (hx:U32 x):∀ i,U32 (up r k x i):=fun i=>by
 unfold Proofs.YtlpigjmjgclgiaaDoorE.up;exact .ite hx (h i)
theorem Rng.getF (h:Rng m f) (n:Int):U32 (getF f n):=by unfold Proofs.YtlpigjmjgclgiaaDoorE.getF;exact .ite .zero (h.fr _)
theorem Rng.reg (h:Rng m f) (n:Int):U32 (ziH m f n):=by unfold ziH;exact .ite (.put _ _ _) (h.getF n)
theorem Rng.stack (h:Rng m f) (u:Bool):U32 (ziE f u):=by unfold ziE;exact .cond (h.fr _) (.cond h.usp h.ksp)
theorem Rng.base (h:Rng m f) (n:Int):U32 (zdk m f U n):=by
 unfold zdk
 exact .ite h.psl (.ite (.ite (h.reg _) (h.stack _)) (.ite (.wrap _) (.ite (.wrap _) (.ite (.wrap _) (.ite .zero (.ite .zero (.ite .zero (h.r _))))))))
theorem Rng.get (h:Rng m f) (n:Int):U32 (getT m f OL U n):=by
 unfold getT
 split
 ·exact .zero
 ·unfold zfI;exact .ite (h.reg _) (.ite h.wx (h.base _))
theorem Rng.putF (h:Rng m f) {x:Int} (hx:U32 x):Rng m (putF f x):=by
 unfold Proofs.YtlpigjmjgclgiaaDoorE.putF
 split
 ·exact ⟨h.r,h.wx,h.was,h.fr,hx,h.ksp,h.usp⟩
 split
 ·exact ⟨h.r,h.wx,h.was,U32.up h.fr 14 h.usp,hx,h.fr 14,h.usp⟩
 ·exact ⟨h.r,h.wx,h.was,U32.up h.fr 14 h.ksp,hx,h.ksp,h.fr 14⟩
theorem Rng.setF (h:Rng m f) (n x s:Int):Rng m (setF f n x s):=by
 unfold Proofs.YtlpigjmjgclgiaaDoorE.setF
 split
 ·exact h
 ·exact ⟨h.r,h.wx,h.was,U32.up h.fr _ (.put _ _ _),h.psl,h.ksp,h.usp⟩
theorem Rng.putQ (h:Rng m f) (n:Int) {x:Int} (hx:U32 x) (s:Int):Rng m (putQ f n x s):=by
 unfold Proofs.YtlpigjmjgclgiaaDoorE.putQ
 split
 ·exact h.putF hx
 ·exact h.setF _ _ _
theorem Rng.putP (h:Rng m f) (n:Int) {x:Int} (hx:U32 x):Rng (putP m n x) f:=by
 unfold Proofs.YtlpigjmjgclgiaaDoorE.putP
 split
 ·exact ⟨U32.up h.r _ hx,h.wx,h.was,h.fr,h.psl,h.ksp,h.usp⟩
 ·exact h
theorem Rng.setl (h:Rng m f):Rng (zbb m) (zbh m f):=by
 unfold zbb zbh
 split
 ·have h1:=(h.putP m.wt h.wx)
  have h2:=(h.putQ m.wt h.wx m.ws)
  exact ⟨h1.r,.zero,h1.was,h2.fr,h2.psl,h2.ksp,h2.usp⟩
 ·exact ⟨h.r,.zero,h.was,h.fr,h.psl,h.ksp,h.usp⟩
theorem Rng.codes (h:Rng m f) (fl:Fl) (how:Int):Rng m (zbW f fl how):=by
 unfold zbW
 split
 ·exact h.putF (.or _ _)
 split
 ·exact h.putF (.or _ _)
 ·exact h
end
end Go.Proofs.YtlpigjmjgclgiaaDoorE
namespace Go.Proofs.YtlpigjmjgclgiaaDoorE
set_option maxRecDepth 100000
open Go Go.E Go.Proofs
structure Pg (B:Nat) (st:SS) (b c:Nat) (m:PM) (f:FM) (l:List Int) (sp:List (Nat×Int)) (OL:List (Int×Int)):Prop where
 pb:Pb B st b c m f l
 s2:SL B st 2 f.steps (rowsF stepR sp) sp.length
 sin:∀ x∈sp,x.1<16
 dj:∀ i,¬ NoB m.buf i→NoB f.steps i
 os:Os st m OL
 lo:∀ i k l q,m.ops=.slice (some ⟨i,k,none⟩) l q→i<B∧i≠b∧i≠c
 tb:Tb st
 rn:0≤m.rn∧m.rn<16
 kk:∀ i,m.k i<16
 rng:Rng m f
section
variable {B : Nat} {st st' s1 s2 : SS} {b c d n : Nat} {m m' : PM} {f f' : FM} {l l' : List Int} {sp sp' : List (Nat × Int)} {OL : List (Int × Int)} {S : List Nat} {u v w : Value}
theorem SL.frm {z:Nat} {C:List Value} (h:SL B st z v C n) (k:Frm B S u st st') (hS:∀ j,j∈S→j<B) (hd:∀ i,¬ NoB v i→NoB u i):SL B st' z v C n:=
 h.keep k.next fun i o l q e=>k.keep i (h.blk i o l q e).2 (fun hm=>by have:=hS i hm;have:=(h.blk i o l q e).1;omega) (hd i fun hno=>hno o l q e)
theorem Pg.low (h:Pg B st b c m f l sp OL):∀ j,j∈[b,c]→j<B:=by
 intro j hj;simp at hj;have:=h.pb.bB;have:=h.pb.cB;omega
theorem Pg.noBuf (h:Pg B st b c m f l sp OL) {i:Nat} (hi:i<B∨st.next≤i):NoB m.buf i:=SL.noB h.pb.sl hi
theorem Pg.noStp (h:Pg B st b c m f l sp OL) {i:Nat} (hi:i<B∨st.next≤i):NoB f.steps i:=SL.noB h.s2 hi
theorem Pg.os' (h:Pg B st b c m f l sp OL) (k:Frm B [b,c] u st st') (hu:∀ i,i<B→NoB u i) (e:m'.ops=m.ops):Os st' m' OL:=
 ⟨by rw [e];exact h.os.1.keep k.next fun i l q e hi=>k.keep i hi (by have:=h.lo i 0 l q e;simp [this]) (hu i (h.lo i 0 l q e).1),h.os.2⟩
theorem Pg.tb' (h:Pg B st b c m f l sp OL) (k:Frm B [b,c] u st st') (hu:∀ i,i<B→NoB u i):Tb st':=by
 have h1:=h.pb.tw.p.2.2
 have h2:=h.pb.tw.f.2.2
 have h3:=h.tb.lt
 have h4:=h.pb.lB
 have h5:=h.pb.hB
 exact ⟨(k.keep _ (by omega) (by intro hh;simp only [List.mem_cons,List.not_mem_nil,or_false] at hh;omega) (hu _ (by omega))).trans h.tb.t,by rw [k.lim];exact h3⟩
theorem Pg.tw' (h:Pg B st b c m f l sp OL) (t:Tw st' b c m' f') (k:Mod [b,c] st st') (eb:m'.buf=m.buf) (eo:m'.ops=m.ops) (es:f'.steps=f.steps) (rn:0≤m'.rn∧m'.rn<16) (kk:∀ i,m'.k i<16) (rg:Rng m' f'):Pg B st' b c m' f' l sp OL:=
 ⟨h.pb.tw' t k eb,by rw [es];exact h.s2.mod k h.low,h.sin,by rw [eb,es];exact h.dj,h.os' (.ofMod (v:=.bool true) k) (fun i _ o l q e=>by cases e) eo,by rw [eo];exact h.lo,h.tb' (.ofMod (v:=.bool true) k) (fun i _ o l q e=>by cases e),rn,kk,rg⟩
theorem Pg.ext (h:Pg B st b c m f l sp OL) (k:Ext st st'):Pg B st' b c m f l sp OL:=h.tw' (h.pb.tw.ext k) (.ofExt k) rfl rfl rfl h.rn h.kk h.rng
theorem Pg.adv (h:Pg B st b c m f l sp OL) {n:Nat} (hn:st.next≤n):Pg B (st.adv n) b c m f l sp OL:=h.ext (Ext.advR st hn)
theorem Pg.fi (h:Pg B st b c m f l sp OL) (hl:sp.length≤1000000):Fi B st c f sp:=⟨h.pb.tw.f,h.s2,h.pb.cB,h.pb.hB,h.pb.lB,h.sin,hl⟩
theorem Pg.hU (h:Pg B st b c m f l sp OL):lenV m.buf=some (.int .i64 ((l.length:Nat):Int)):=h.pb.sl.len
theorem zbX (f:FM) (x:Int):(putF f x).steps=f.steps:=by unfold putF;split<;>first | rfl | (split<;>rfl)
theorem zpc (f:FM) (n x s:Int):(setF f n x s).steps=f.steps:=by unfold setF;split<;>rfl
theorem zpd (f:FM) (n x s:Int):(putQ f n x s).steps=f.steps:=by unfold putQ;split<;>first | exact zbX _ _ | exact zpc _ _ _ _
theorem zod (m:PM) (f:FM):(zbh m f).steps=f.steps:=by unfold zbh;split<;>first | exact zpd _ _ _ _ | rfl
theorem zl1 (m:PM):(zbb m).buf=m.buf∧(zbb m).ops=m.ops∧(zbb m).rn=m.rn∧(zbb m).k=m.k∧(zbb m).was=m.was∧(zbb m).ws=0∧(zbb m).own=m.own:=by
 unfold zbb putP
 split
 ·split<;>exact ⟨rfl,rfl,rfl,rfl,rfl,rfl,rfl⟩
 ·exact ⟨rfl,rfl,rfl,rfl,rfl,rfl,rfl⟩
theorem znA [Sym] (h:Pg B st b c m f l sp OL):∃ st',cc 17 [ptr b 0] st=some (.tuple #[],st')∧Pg B st' b c (zbb m) (zbh m f) l sp OL∧Mod [b,c] st st':=by
 obtain ⟨s,e,t,k⟩:=zl0 h.pb.tw
 obtain ⟨q1,q2,q3,q4,_⟩:=zl1 m
 exact ⟨s,e,h.tw' t k q1 q2 (zod _ _) (by rw [q3];exact h.rn) (by rw [q4];exact h.kk) h.rng.setl,k⟩
theorem zqP (m:PM) (f:FM) (OL:List (Int×Int)) (U:Nat) (op a bb:Int) (cy:Bool) (s:Int):∃ row div,(zaW m f OL U op a bb cy s).2.2={ m with row:=row,div:=div }:=by
 have key:∀ (p:Prop) [Decidable p] (x y:Int×Option Fl×PM),(∃ row div,x.2.2={ m with row:=row,div:=div })→(∃ row div,y.2.2={ m with row:=row,div:=div })→∃ row div,(if p then x else y).2.2={ m with row:=row,div:=div }:=by
  intro p _ x y hx hy;split<;>assumption
 have same:∃ row div,m={ m with row:=row,div:=div }:=⟨m.row,m.div,rfl⟩
 unfold zaW
 exact key _ _ _ same (key _ _ _ same (key _ _ _ same (key _ _ _ same (key _ _ _ same (key _ _ _ same (key _ _ _ same (key _ _ _ same (key _ _ _ same (key _ _ _ ⟨_,m.div,rfl⟩ (key _ _ _ same ⟨m.row,_,rfl⟩))))))))))
theorem zqQ [Sym] (h:Pg B st b c m f l sp OL) (op a:Int) {bb:Int} (hb:U32 bb) (s:Int):
  ∃ (st':SS) (x:Int) (fl:Fl) (row:Int) (div:Bool),cc 23 [ptr b 0,.int .i64 op,.int .u32 a,.int .u32 bb,.int .i64 s] st=some (.tuple #[.int .u32 x,fl.val],st')∧U32 x∧Pg B st' b c { m with row:=row,div:=div } f l sp OL∧Mod [b,c] st st':=by
 obtain ⟨s1,e,t,k⟩:=zp3 h.pb.tw h.os h.hU op a bb s
 obtain ⟨row,div,hR⟩:=zqP m f OL l.length op a bb (zbr f.psl).c s
 rw [hR] at t
 exact ⟨s1,_,_,row,div,e,.reck hb,h.tw' t k rfl rfl rfl h.rn h.kk ⟨h.rng.r,h.rng.wx,h.rng.was,h.rng.fr,h.rng.psl,h.rng.ksp,h.rng.usp⟩,k⟩
theorem zrx [Sym] (h:Pg B st b c m f l sp OL) (fl:Fl) (how:Int):∃ st',cc 24 [ptr b 0,fl.val,.int .i64 how] st=some (.tuple #[],st')∧Pg B st' b c m (zbW f fl how) l sp OL∧Mod [b,c] st st':=by
 obtain ⟨s,e,t,k⟩:=zp4 h.pb.tw fl how
 exact ⟨s,e,h.tw' t k rfl rfl (by unfold zbW;split<;>first | exact zbX _ _ | (split<;>first | exact zbX _ _ | rfl)) h.rn h.kk (h.rng.codes _ _),k⟩
theorem zqR (m:PM) (l:List Int) (M:Int) (n:Nat) (a:Int):∃ r row,zkb m l M n a={ m with r:=r,row:=row }∧((∀ x∈l,True)→Rng m f→U32 (outT l n)→Rng (zkb m l M n a) f):=by
 unfold zkb zeK
 split
 ·exact ⟨m.r,_,rfl,fun _ h _=>⟨h.r,h.wx,h.was,h.fr,h.psl,h.ksp,h.usp⟩⟩
 split
 ·exact ⟨m.r,_,rfl,fun _ h _=>⟨h.r,h.wx,h.was,h.fr,h.psl,h.ksp,h.usp⟩⟩
 split
 ·exact ⟨_,m.row,rfl,fun _ h ho=>⟨U32.up h.r 36 ho,h.wx,h.was,h.fr,h.psl,h.ksp,h.usp⟩⟩
 ·exact ⟨m.r,m.row,rfl,fun _ h _=>h⟩
theorem znB:∀ (l:List Int) (i:Nat) (x:Int),U32 x→U32 (sumT l i x)
 | [],_,x,h=>h
 | y::r,i,x,h=>znB r (i+1) _ (.or _ _)
theorem zqS (l:List Int) (n:Nat):U32 (outT l n):=znB _ _ _ .zero
theorem zry [Sym] (h:Pg B st b c m f l sp OL) {wv:Value} {w:List Value} {Sz M:Int} (hw:Wd wv w Sz M) (h0:0≤Sz) (hn:sizeT m Sz=(n:Int)) (hn6:n≤1000000) (a:Int):
  ∃ st' v r row l',cc 26 [ptr b 0,wv,.int .u32 a] st=some (.tuple #[],st')∧Pg B st' b c { m with r:=r,row:=row,buf:=v } f l' sp OL∧Frm B [b,c] m.buf st st'∧Nwr st.next m.buf v:=by
 obtain ⟨s,v,e,p,k,hv⟩:=blk_ok h.pb hw h0 hn hn6 (h.rng.r 23).1 a
 obtain ⟨r,row,hR,hg⟩:=zqR (f:=f) m l M n a
 have rg:=hg (fun _ _=>trivial) h.rng (zqS _ _)
 rw [hR] at p rg
 have hno:∀ i,i<B→NoB m.buf i:=fun i hi=>h.noBuf (.inl hi)
 refine ⟨s,v,r,row,zkc m l M n,e,⟨p,?_,h.sin,fun i hi=>?_,h.os' k hno rfl,h.lo,h.tb' k hno,h.rn,h.kk,⟨rg.r,rg.wx,rg.was,rg.fr,rg.psl,rg.ksp,rg.usp⟩⟩,k,hv⟩
 ·refine SL.frm h.s2 k h.low fun i hi=>?_
  exact Classical.byContradiction fun hb=>hi (h.dj i hb)
 ·have:∃ o q r,v=.slice (some ⟨i,o,none⟩) q r:=Classical.byContradiction fun hne=>hi fun o q r e=>hne ⟨o,q,r,e⟩
  obtain ⟨o,q,r',e'⟩:=this
  rcases hv i o q r' e' with h5 | h5
  ·exact h.noStp (.inr h5)
  ·exact h.dj i h5
end
end Go.Proofs.YtlpigjmjgclgiaaDoorE
namespace Go.Proofs.YtlpigjmjgclgiaaDoorE
open Go Go.E Go.Proofs
theorem bvW (x:BitVec 32):BitVec.ofInt 32 (IntKind.wrap .u32 (x.toNat:Int))=x:=by
 rw [zcN (by omega) (by have:=x.isLt;omega)]
 apply BitVec.eq_of_toNat_eq
 rw [BitVec.ofInt_natCast,BitVec.toNat_ofNat]
 exact Nat.mod_eq_of_lt x.isLt
theorem bvOr (x y:Int):BitVec.ofInt 32 (orI .u32 x y)=BitVec.ofInt 32 x||| BitVec.ofInt 32 y:=bvW _
theorem znC (x y:Int):BitVec.ofInt 32 (zbj .u32 x y)=BitVec.ofInt 32 x&&& ~~~ BitVec.ofInt 32 y:=bvW _
theorem zcQ (x:Int):isUser x=(BitVec.ofInt 32 x).getLsbD 24:=by
 have h1:zai .u32 x 16777216=((BitVec.ofInt 32 x&&& BitVec.twoPow 32 24).toNat:Int):=by
  show IntKind.wrap .u32 ((BitVec.ofInt 32 x&&& BitVec.ofInt 32 16777216).toNat:Int)=_
  rw [zcN (by omega) (by have:=(BitVec.ofInt 32 x&&& BitVec.ofInt 32 16777216).isLt;omega)]
  rfl
 unfold isUser
 rw [h1,BitVec.and_twoPow]
 cases (BitVec.ofInt 32 x).getLsbD 24 with
 | true=>rfl
 | false=>rfl
theorem zp5 (fl:Fl):(BitVec.ofInt 32 (zni fl)).getLsbD 24=false:=by
 obtain ⟨n,z,v,c⟩:=fl
 cases n<;>cases z<;>cases v<;>cases c<;>kernel_rfl
theorem zl2 (x:Int) (fl:Fl):isUser (zhh x fl)=isUser x:=by
 rw [zcQ,zcQ]
 unfold zhh
 rw [bvOr,znC,BitVec.getLsbD_or,BitVec.getLsbD_and,BitVec.getLsbD_not,zp5]
 have:(BitVec.ofInt 32 15).getLsbD 24=false:=by kernel_rfl
 rw [this];simp
theorem zrz (x:Int):isUser (orI .u32 x 134217728)=isUser x:=by
 rw [zcQ,zcQ,bvOr,BitVec.getLsbD_or]
 have:(BitVec.ofInt 32 134217728).getLsbD 24=false:=by kernel_rfl
 rw [this];simp
theorem zoe (x:Int):isUser (zbj .u32 x 134217728)=isUser x:=by
 rw [zcQ,zcQ,znC,BitVec.getLsbD_and,BitVec.getLsbD_not]
 have:(BitVec.ofInt 32 134217728).getLsbD 24=false:=by kernel_rfl
 rw [this];simp
structure Und (R0:Nat→Int) (P0 K0 U0:Int) (was:Int) (f:FM) (sp:List (Nat×Int)):Prop where
 was:was=P0
 r:(undoF f sp.reverse).r=R0
 k:f.ksp=K0
 u:f.usp=U0
 us:isUser f.psl=isUser P0
section
variable {R0 : Nat → Int} {P0 K0 U0 was : Int} {f : FM} {sp : List (Nat × Int)}
theorem zp6 (l:List (Nat×Int)):∀ (f:FM) (x:Int),undoF { f with psl:=x } l={ undoF f l with psl:=x }:=by
 induction l with
 | nil=>intro f x;rfl
 | cons y r ih=>intro f x;exact ih { f with r:=up f.r y.1 (IntKind.wrap .u32 (f.r y.1-y.2)) } x
theorem zkX (l:List (Nat×Int)):∀ (f:FM),(undoF f l).psl=f.psl∧(undoF f l).ksp=f.ksp∧(undoF f l).usp=f.usp∧(undoF f l).steps=f.steps:=by
 induction l with
 | nil=>intro f;exact ⟨rfl,rfl,rfl,rfl⟩
 | cons y r ih=>intro f;exact ih { f with r:=up f.r y.1 (IntKind.wrap .u32 (f.r y.1-y.2)) }
theorem zp7 (l:List (Nat×Int)):∀ (f:FM),(∀ i,U32 (f.r i))→∀ i,U32 ((undoF f l).r i):=by
 induction l with
 | nil=>intro f h;exact h
 | cons y r ih=>intro f h;exact ih { f with r:=up f.r y.1 (IntKind.wrap .u32 (f.r y.1-y.2)) } (U32.up h _ (.wrap _))
theorem Und.put (h:Und R0 P0 K0 U0 was f sp) {x:Int} (hx:isUser x=isUser f.psl):Und R0 P0 K0 U0 was (putF f x) sp:=by
 have e:putF f x={ f with psl:=x }:=by unfold putF;rw [if_pos hx]
 rw [e]
 refine ⟨h.was,?_,h.k,h.u,hx.trans h.us⟩
 rw [zp6];exact h.r
theorem Und.codes (h:Und R0 P0 K0 U0 was f sp) (fl:Fl) (how:Int):Und R0 P0 K0 U0 was (zbW f fl how) sp:=by
 unfold zbW
 split
 ·exact h.put (zl2 _ _)
 split
 ·exact h.put (zl2 _ _)
 ·exact h
theorem zp8 {x:Int} (h:U32 x) (d:Int):IntKind.wrap .u32 (IntKind.wrap .u32 (x+d)-d)=x:=by
 have e:∀ y,IntKind.wrap .u32 y=y%4294967296:=fun y=>by
  rw [← zem]
  show ((zbs y 4294967296:Nat):Int)=_
  rw [zel _ _ (by decide)]
  omega
 have h1:=h.1
 have h2:=h.2
 rw [e,e];omega
theorem zp9 (f:FM) (n:Nat) (d:Int) (h:∀ i,U32 (f.r i)):up (up f.r n (IntKind.wrap .u32 (f.r n+d))) n (IntKind.wrap .u32 (up f.r n (IntKind.wrap .u32 (f.r n+d)) n-d))=f.r:=by
 funext i
 unfold up
 by_cases e:i=n
 ·subst e
  rw [if_pos rfl,if_pos rfl,zp8 (h i)]
 ·rw [if_neg e,if_neg e]
theorem Und.step (h:Und R0 P0 K0 U0 was f sp) (hr:∀ i,U32 (f.r i)) (n:Nat) (d:Int) (v:Value):Und R0 P0 K0 U0 was { zcP f n d with steps:=v } (sp++[(n,d)]):=by
 refine ⟨h.was,?_,h.k,h.u,h.us⟩
 rw [List.reverse_append]
 show (undoF { ({ zcP f n d with steps:=v }:FM) with r:=up (zcP f n d).r n (IntKind.wrap .u32 ((zcP f n d).r n-d)) } sp.reverse).r=R0
 have e:({ ({ zcP f n d with steps:=v }:FM) with r:=up (zcP f n d).r n (IntKind.wrap .u32 ((zcP f n d).r n-d)) }:FM)={ f with steps:=v }:=by
  unfold zcP
  simp only
  rw [zp9 f n d hr]
 rw [e]
 have:=zjy sp.reverse f v v
 have e2:(undoF { f with steps:=v } sp.reverse).r=(undoF f sp.reverse).r:=by
  have e3:({ undoF { f with steps:=v } sp.reverse with steps:=v }:FM).r=({ undoF f sp.reverse with steps:=v }:FM).r:=by rw [this]
  exact e3
 rw [e2];exact h.r
theorem Und.undo (h:Und R0 P0 K0 U0 was f sp) (v:Value):Und R0 P0 K0 U0 was (putF { undoF f sp.reverse with steps:=v } was) []∧(putF { undoF f sp.reverse with steps:=v } was).r=R0∧(putF { undoF f sp.reverse with steps:=v } was).psl=P0:=by
 obtain ⟨k1,k2,k3,k4⟩:=zkX sp.reverse f
 have hu:isUser was=isUser ({ undoF f sp.reverse with steps:=v }:FM).psl:=by
  show isUser was=isUser (undoF f sp.reverse).psl
  rw [k1,h.was,h.us]
 have e:putF { undoF f sp.reverse with steps:=v } was={ undoF f sp.reverse with steps:=v,psl:=was }:=by unfold putF;rw [if_pos hu]
 rw [e]
 exact ⟨⟨h.was,h.r,k2.trans h.k,k3.trans h.u,by rw [h.was]⟩,h.r,h.was⟩
end
end Go.Proofs.YtlpigjmjgclgiaaDoorE
namespace Go.Proofs.YtlpigjmjgclgiaaDoorE
set_option maxRecDepth 100000
open Go Go.E Go.Proofs
section
variable {B : Nat} {st st' s1 s2 : SS} {b c d n : Nat} {m m' : PM} {f f' : FM} {l l' : List Int} {sp sp' : List (Nat × Int)} {OL : List (Int × Int)} {S : List Nat} {u v w : Value}
theorem and15 (a:Int):0≤zai .u32 a 15∧zai .u32 a 15<16:=by
 have h1:(BitVec.ofInt 32 a&&& BitVec.ofInt 32 15).toNat≤15:=by
  rw [BitVec.toNat_and]
  exact zlt Nat.and_le_right (by decide)
 have h2:zai .u32 a 15=((BitVec.ofInt 32 a&&& BitVec.ofInt 32 15).toNat:Int):=zcN (by exact Int.natCast_nonneg _) (by show (((BitVec.ofInt 32 a&&& BitVec.ofInt 32 15).toNat:Nat):Int)<4294967296;omega)
 rw [h2]
 omega
def Lat (B:Nat) (st:SS) (b c:Nat) (m:PM) (f:FM) (l:List Int) (sp:List (Nat×Int)) (OL:List (Int×Int)) (K:Int) (x:Option (Value×SS)):Prop:=
 ∃ st' r k own rn rx fl f' sp',x=some (.tuple #[],st')∧Pg B st' b c { m with r:=r,k:=k,own:=own,rn:=rn,rx:=rx,fl:=fl } f' l sp' OL∧sp'.length≤sp.length+1∧(∀ R0 P0 K0 U0,Und R0 P0 K0 U0 m.was f sp→Und R0 P0 K0 U0 m.was f' sp')∧
  (K=2→∀ R0 P0 K0 U0,Und R0 P0 K0 U0 m.was f sp→sp'=[]∧f'.r=R0∧f'.psl=P0)∧Frm B [b,c] f.steps st st'∧Nwr st.next f.steps f'.steps∧(own=m.own∨∃ x∈OL,own=x.2)
theorem zd6 (h:Pg B st b c m f l sp OL) {K:Int} (hK:K≠2) {r:Nat→Int} {k:Nat→Int} {own rn rx:Int} {fl:Bool} (t:Tw st' b c { m with r:=r,k:=k,own:=own,rn:=rn,rx:=rx,fl:=fl } f) (hm:Mod [b,c] st st') (hr:0≤rn∧rn<16) (hk:∀ i,k i<16) (hR:∀ i,U32 (r i)) (ho:own=m.own∨∃ x∈OL,own=x.2:=by exact .inl rfl):
  Lat B st b c m f l sp OL K (some (.tuple #[],st')):=
 ⟨st',r,k,own,rn,rx,fl,f,sp,rfl,h.tw' t hm rfl rfl rfl hr hk ⟨hR,h.rng.wx,h.rng.was,h.rng.fr,h.rng.psl,h.rng.ksp,h.rng.usp⟩,by omega,fun _ _ _ _ h=>h,fun e=>absurd e hK,.ofMod hm,.refl _ _,ho⟩
theorem lat_f (h:Pg B st b c m f l sp OL) {K x:Int} (hK:K≠2) (hx:isUser x=isUser f.psl) (hU:U32 x) (t:Tw st' b c m (putF f x)) (hm:Mod [b,c] st st'):Lat B st b c m f l sp OL K (some (.tuple #[],st')):=
 ⟨st',m.r,m.k,m.own,m.rn,m.rx,m.fl,putF f x,sp,rfl,h.tw' t hm rfl rfl (zbX _ _) h.rn h.kk (h.rng.putF hU),by omega,fun _ _ _ _ h=>h.put hx,fun e=>absurd e hK,.ofMod hm,by rw [zbX];exact .refl _ _,.inl rfl⟩
theorem zrA [Sym] (h:Pg B st b c m f l sp OL) (hl:sp.length<1000000) {wv:Value} {w:List Value} {K lit:Int} (hw:wv.cells.toList=w) (h4:w[4]?=some (.int .i64 lit)) (h11:w[11]?=some (.int .i64 K)) (hlit:0≤lit) (a:Int):
  Lat B st b c m f l sp OL K (cc 27 [ptr b 0,wv,.int .u32 a] st):=by
 obtain ⟨s1,hs1⟩:∃ s,s=st.new (.cells w 0):=⟨_,rfl⟩
 have x1:Ext st s1:=by rw [hs1];exact (Ext.refl st).new _
 have h1:=h.ext x1
 have l1:∀ i,s1.ld st.next i=w[i]?:=fun i=>by rw [hs1];exact zep
 have pre:∀ r,(cond (decide (K=1)) _ _:Option (Value×SS))=some r→cc 27 [ptr b 0,wv,.int .u32 a] st=some r:=fun r hr=>by
  refine zhL _ _ _ st ?_
  unfold zfG
  rw [hw]
  simp only
  rw [← hs1]
  refine bs (a:=K) (by rw [l1,h11];rfl) ?_
  exact hr
 have put:∀ x,Lat B s1 b c m f l sp OL K (some x)→cc 27 [ptr b 0,wv,.int .u32 a] st=some x→Lat B st b c m f l sp OL K (cc 27 [ptr b 0,wv,.int .u32 a] st):=fun x hx e=>by
  obtain ⟨st',r,k,own,rn,rx,fl,f',sp',e1,q1,q2,q3,q4,q5,q6,q7⟩:=hx
  rw [e]
  exact ⟨st',r,k,own,rn,rx,fl,f',sp',e1,q1,q2,q3,q4,(Frm.ofExt x1).then q5 (.refl _ _),(Nwr.refl _ _).trans q6 x1.next,q7⟩
 have l73:(s1.ld b (0+73)).bind (asI .i64)=some m.rn:=by rw [h1.pb.tw.rw.ld,show 0+73=73 from rfl,m.g73];rfl
 have l71:s1.ld b (0+67+4)=some m.ops:=by rw [h1.pb.tw.rw.ld];exact m.g71
 by_cases k1:K=1
 ·subst k1
  obtain ⟨rn,hrn⟩:∃ rn:Nat,m.rn=(rn:Int):=⟨m.rn.toNat,by have:=h.rn.1;omega⟩
  have hr16:rn<16:=by have:=h.rn.2;omega
  obtain ⟨s9,v9,e9,F9,k9,n9⟩:=zqE (h1.fi (by omega)) hr16 hl a
  have hbc:b∉[c]:=by simp [h.pb.tw.ne]
  have nb:NoB f.steps b:=h1.noStp (.inl h.pb.bB)
  have tb:Tw s9 b c m { zcP f rn a with steps:=v9 }:=⟨k9.at' h1.pb.tw.p hbc nb,F9.at',h.pb.tw.fp,h.pb.tw.ne,by rw [k9.lim];exact zlt h1.pb.tw.ll k9.next⟩
  have k9':Frm B [b,c] f.steps s1 s9:=⟨k9.next,k9.lim,fun i hi hS hk=>k9.keep i hi (by simp at hS ⊢;exact hS.2) hk⟩
  have hno:∀ i,i<B→NoB f.steps i:=fun i hi=>h1.noStp (.inl hi)
  refine put (.tuple #[],s9) ⟨s9,m.r,m.k,m.own,m.rn,m.rx,m.fl,{ zcP f rn a with steps:=v9 },sp++[(rn,a)],rfl,⟨⟨tb,SL.frm h1.pb.sl k9' h1.low h1.dj,h.pb.bB,h.pb.cB,F9.hB,F9.hl,h.pb.len⟩,F9.sl,F9.in',fun i hi=>?_,h1.os' k9' hno rfl,h.lo,h1.tb' k9' hno,h.rn,h.kk,?_⟩,by simp,fun _ _ _ _ hu=>hu.step h.rng.fr rn a v9,fun e=>by omega,k9',fun i o q r e=>.inl (n9 i o q r e),.inl rfl⟩ (pre _ ?_)
  ·have:∃ o q r,m.buf=.slice (some ⟨i,o,none⟩) q r:=Classical.byContradiction fun hne=>hi fun o q r e=>hne ⟨o,q,r,e⟩
   obtain ⟨o,q,r',e'⟩:=this
   have:=(h1.pb.sl.blk i o q r' e').2
   intro o2 q2 r2 e2
   have:=n9 i o2 q2 r2 e2
   omega
  ·exact ⟨h.rng.r,h.rng.wx,h.rng.was,U32.up h.rng.fr _ (.wrap _),h.rng.psl,h.rng.ksp,h.rng.usp⟩
  ·simp only [decide_true,zct,zad,zaa,zob]
   refine bs h1.pb.tw.rw.ld0 (bs l73 ?_)
   rw [hrn]
   exact bs e9 rfl
 by_cases k2:K=2
 ·subst k2
  obtain ⟨s9,v9,e9,F9,k9,b9⟩:=zqF (h1.fi (by omega))
  have t9:Tw s9 b c m { undoF f sp.reverse with steps:=v9 }:=h1.pb.tw.modC F9.at' k9
  have l84:(s9.ld b (0+84)).bind (asI .u32)=some m.was:=by rw [t9.rw.ld,show 0+84=84 from rfl,m.g84];rfl
  obtain ⟨s10,e10,a10,k10⟩:=zgM t9.f m.was
  have t10:=t9.modC a10 k10
  have k12:Mod [b,c] s1 s10:=(inC k9).then (inC k10)
  obtain ⟨u1,u2,u3,u4⟩:=zkX sp.reverse f
  have sS:(putF { undoF f sp.reverse with steps:=v9 } m.was).steps=v9:=zbX _ _
  have hno:∀ (X:SS) i,i<B→NoB (Value.bool true) i:=fun _ i _ o q r e=>by cases e
  refine put (.tuple #[],s10) ⟨s10,m.r,m.k,m.own,m.rn,m.rx,m.fl,putF { undoF f sp.reverse with steps:=v9 } m.was,[],rfl,⟨h1.pb.tw' t10 k12 rfl,?_,by simp,fun i hi=>?_,h1.os' (u:=.bool true) (.ofMod k12) (hno s1) rfl,h.lo,h1.tb' (u:=.bool true) (.ofMod k12) (hno s1),h.rn,h.kk,?_⟩,by simp,fun _ _ _ _ hu=>(hu.undo v9).1,fun _ _ _ _ _ hu=>⟨rfl,(hu.undo v9).2.1,(hu.undo v9).2.2⟩,.ofMod k12,?_,.inl rfl⟩ (pre _ ?_)
  ·rw [sS];exact F9.sl.mod k10 (by simp;exact h.pb.cB)
  ·rw [sS]
   intro o q r e
   obtain ⟨o',q',r',e'⟩:=b9 i o q r e
   exact h.dj i hi o' q' r' e'
  ·have r0:Rng m ({ undoF f sp.reverse with steps:=v9 }:FM):=⟨h.rng.r,h.rng.wx,h.rng.was,zp7 _ f h.rng.fr,by rw [show ({ undoF f sp.reverse with steps:=v9 }:FM).psl=(undoF f sp.reverse).psl from rfl,u1];exact h.rng.psl,by rw [show ({ undoF f sp.reverse with steps:=v9 }:FM).ksp=(undoF f sp.reverse).ksp from rfl,u2];exact h.rng.ksp,by rw [show ({ undoF f sp.reverse with steps:=v9 }:FM).usp=(undoF f sp.reverse).usp from rfl,u3];exact h.rng.usp⟩
   exact r0.putF h.rng.was
  ·rw [sS]
   intro i o q r e
   obtain ⟨o',q',r',e'⟩:=b9 i o q r e
   exact .inr fun hn=>hn o' q' r' e'
  ·simp only [Int.reduceEq,decide_false,decide_true,zcf,zct,zad,zaa,zob]
   exact bs h1.pb.tw.rw.ld0 (bs e9 (bs t9.rw.ld0 (bs l84 (bs e10 rfl))))
 have e33:=zdL (st:=s1.ro s1.next) h1.pb.tw.f.mem
 have r33:(s1.ro s1.next).ro s1.lim=s1:=rfl
 by_cases k3:K=3
 ·subst k3
  obtain ⟨s9,e9,a9,m9⟩:=zgM h1.pb.tw.f (orI .u32 f.psl 134217728)
  refine put (.tuple #[],s9) (lat_f h1 (by omega) (zrz _) (.or _ _) (h1.pb.tw.modC a9 m9) (inC m9)) (pre _ ?_)
  simp only [Int.reduceEq,decide_false,decide_true,zcf,zct,zad,zaa,zob]
  refine bs h1.pb.tw.rw.ld0 (bs h1.pb.tw.rw.ld0 (bs e33 ?_))
  simp only [zob,zac]
  rw [r33]
  exact bs e9 rfl
 by_cases k4:K=4
 ·subst k4
  obtain ⟨s9,e9,a9,m9⟩:=zgM h1.pb.tw.f (zbj .u32 f.psl 134217728)
  refine put (.tuple #[],s9) (lat_f h1 (by omega) (zoe _) (.andNot _ _) (h1.pb.tw.modC a9 m9) (inC m9)) (pre _ ?_)
  simp only [Int.reduceEq,decide_false,decide_true,zcf,zct,zad,zaa,zob]
  refine bs h1.pb.tw.rw.ld0 (bs h1.pb.tw.rw.ld0 (bs e33 ?_))
  simp only [zob,zac]
  rw [r33]
  exact bs e9 rfl
 by_cases k6:K=6
 ·subst k6
  obtain ⟨i,hi⟩:∃ i:Nat,atT m=(i:Int):=⟨(atT m).toNat,by have:=(zo8 m).1;omega⟩
  have hi6:i<6:=by have:=(zo8 m).2;omega
  have e52:=znn (h1.pb.tw.rw.ro s1.next)
  rw [hi] at e52
  obtain ⟨s9,e9,t9,m9,_⟩:=h1.pb.tw.w (k:=0+61+i*1) (x:=.int .i64 m.rn) { m with k:=up m.k i m.rn } (by omega) rfl (by rw [show 0+61+i*1=61+i by omega];exact m.setK hi6 _) rfl
  refine put (.tuple #[],s9) (zd6 h1 (by omega) (r:=m.r) (k:=up m.k i m.rn) (own:=m.own) (rn:=m.rn) (rx:=m.rx) (fl:=m.fl) t9 m9 h.rn (fun j=>by unfold up;split<;>first | exact h.rn.2 | exact h.kk j) h.rng.r) (pre _ ?_)
  simp only [Int.reduceEq,decide_false,decide_true,zcf,zct,zad,zaa,zob]
  refine bs e52 ?_
  simp only [zob,zac]
  rw [r33]
  exact bs l73 (bs (zaF (n:=i) hi6) (bs e9 rfl))
 by_cases k7:K=7
 ·subst k7
  obtain ⟨s9,e9,t9,m9,_⟩:=h1.pb.tw.w (k:=0+74) (x:=.int .i64 m.rn) _ (by omega) rfl (PM.s74 _ _) rfl
  refine put (.tuple #[],s9) (zd6 h1 (by omega) (r:=m.r) (k:=m.k) (own:=m.own) (rn:=m.rn) (rx:=m.rn) (fl:=m.fl) t9 m9 h.rn h.kk h.rng.r) (pre _ ?_)
  simp only [Int.reduceEq,decide_false,decide_true,zcf,zct,zad,zaa,zob]
  exact bs l73 (bs e9 rfl)
 by_cases k15:K=15
 ·subst k15
  have h15:=and15 a
  obtain ⟨s9,e9,t9,m9,_⟩:=h1.pb.tw.w (k:=0+73) (x:=.int .i64 (IntKind.wrap .i64 (zai .u32 a 15))) _ (by omega) rfl (PM.s73 _ _) rfl
  refine put (.tuple #[],s9) (zd6 h1 (by omega) (r:=m.r) (k:=m.k) (own:=m.own) (rn:=IntKind.wrap .i64 (zai .u32 a 15)) (rx:=m.rx) (fl:=m.fl) t9 m9 (by rw [wrap64 (by omega) (by omega)];exact h15) h.kk h.rng.r) (pre _ ?_)
  simp only [Int.reduceEq,decide_false,decide_true,zcf,zct,zad,zaa,zob]
  exact bs e9 rfl
 by_cases k16:K=16
 ·subst k16
  obtain ⟨i,hi⟩:∃ i:Nat,(if 5<lit then 5 else lit)=(i:Int):=⟨(if 5<lit then 5 else lit).toNat,by split<;>omega⟩
  have hi6:i<6:=by split at hi<;>omega
  obtain ⟨s9,e9,t9,m9,_⟩:=h1.pb.tw.w (k:=0+73) (x:=.int .i64 (if 0>m.k i then 0 else m.k i)) _ (by omega) rfl (PM.s73 _ _) rfl
  have hk:=h.kk i
  refine put (.tuple #[],s9) (zd6 h1 (by omega) (r:=m.r) (k:=m.k) (own:=m.own) (rn:=if 0>m.k i then 0 else m.k i) (rx:=m.rx) (fl:=m.fl) t9 m9 (by split<;>omega) h.kk h.rng.r) (pre _ ?_)
  simp only [Int.reduceEq,decide_false,decide_true,zcf,zct,zad,zaa,zob]
  refine bs (a:=lit) (by rw [l1,h4];rfl) ?_
  rw [hi]
  exact bs (zaF (n:=i) hi6) (bs (h1.pb.tw.rw.ldK hi6) (bs e9 rfl))
 by_cases k17:K=17
 ·subst k17
  cases OL with
  | nil=>
    refine put (.tuple #[],s1) (zd6 h1 (by omega) (r:=m.r) (k:=m.k) (own:=m.own) (rn:=m.rn) (rx:=m.rx) (fl:=m.fl) h1.pb.tw (.refl _) h.rn h.kk h.rng.r) (pre _ ?_)
    simp only [Int.reduceEq,decide_false,decide_true,zcf,zct,zad,zaa,zob]
    refine bs l71 (bs h1.os.1.lenI ?_)
    rw [zdf (show ¬ (0:Int)<(([]:List (Int×Int)).length:Int) by simp),zcf]
  | cons x0 rest=>
    have hlen:0<(x0::rest).length:=by simp
    have hrt:=zlp hlen
    have hx:(x0::rest)[resT (x0::rest)]?=some ((x0::rest)[resT (x0::rest)]):=zge hrt
    obtain ⟨p1,a1,_,c1⟩:=h1.os.1.load (j:=((resT (x0::rest):Nat):Int)) (by omega) (by omega) (zdE zdM (x0::rest) _ _ hx) (zdM _)
    have e69:=zkT (h1.pb.tw.rw.ro s1.next) h1.os.ro
    obtain ⟨s9,e9,t9,m9,_⟩:=h1.pb.tw.w (k:=0+75) (x:=.int .i64 ((x0::rest)[resT (x0::rest)]).2) _ (by omega) rfl (PM.s75 _ _) rfl
    refine put (.tuple #[],s9) (zd6 h1 (by omega) (r:=m.r) (k:=m.k) (own:=((x0::rest)[resT (x0::rest)]).2) (rn:=m.rn) (rx:=m.rx) (fl:=m.fl) t9 m9 h.rn h.kk h.rng.r (.inr ⟨_,List.getElem_mem hrt,rfl⟩)) (pre _ ?_)
    simp only [Int.reduceEq,decide_false,decide_true,zcf,zct,zad,zaa,zob]
    refine bs l71 (bs h1.os.1.lenI ?_)
    rw [zdt (show (0:Int)<((x0::rest).length:Int) by omega),zct]
    refine bs l71 (bs e69 ?_)
    simp only [zob,zac]
    rw [r33]
    exact bs a1 (bs (a:=((x0::rest)[resT (x0::rest)]).2) (by rw [c1 1 (.int .i64 ((x0::rest)[resT (x0::rest)]).2) rfl];rfl) (bs e9 rfl))
 obtain ⟨x21,h21⟩:∃ x:Nat,m.r 21=(x:Int):=⟨(m.r 21).toNat,by have:=(h.rng.r 21).1;omega⟩
 have hx21:x21<4294967296:=by have:=(h.rng.r 21).2;omega
 by_cases k18:K=18
 ·subst k18
  obtain ⟨s9,e9,t9,m9⟩:=zrv h1.pb.tw h1.tb hx21 h21
  refine put (.tuple #[],s9) ?_ (pre _ ?_)
  ·by_cases h0:x21=0
   ·have e:zho m x21={ m with fl:=true }:=by unfold zho;rw [if_pos h0]
    rw [e] at t9
    exact zd6 h1 (by omega) (r:=m.r) (k:=m.k) (own:=m.own) (rn:=m.rn) (rx:=m.rx) (fl:=true) t9 m9 h.rn h.kk h.rng.r
   ·have e:zho m x21={ m with fl:=false,r:=up (up m.r 22 (Lib.ctz 32 x21:Int)) 21 ((x21&&& (x21-1):Nat):Int) }:=by unfold zho;rw [if_neg h0]
    rw [e] at t9
    have hc:=(zp1 h0 hx21).2
    have hq:x21&&& (x21-1)<2^32:=Nat.and_lt_two_pow _ (by omega)
    exact zd6 h1 (by omega) (r:=up (up m.r 22 (Lib.ctz 32 x21:Int)) 21 ((x21&&& (x21-1):Nat):Int)) (k:=m.k) (own:=m.own) (rn:=m.rn) (rx:=m.rx) (fl:=false) t9 m9 h.rn h.kk (U32.up (U32.up h.rng.r 22 ⟨by omega,by omega⟩) 21 ⟨by omega,by omega⟩)
  ·simp only [Int.reduceEq,decide_false,decide_true,zcf,zct]
   exact bs e9 rfl
 by_cases k20:K=20
 ·subst k20
  obtain ⟨s9,e9,t9,m9,_⟩:=h1.pb.tw.setR (i:=59) (by omega) (IntKind.wrap .u32 lit)
  refine put (.tuple #[],s9) (zd6 h1 (by omega) (r:=up m.r 59 (IntKind.wrap .u32 lit)) (k:=m.k) (own:=m.own) (rn:=m.rn) (rx:=m.rx) (fl:=m.fl) t9 m9 h.rn h.kk (U32.up h.rng.r 59 (.wrap _))) (pre _ ?_)
  simp only [Int.reduceEq,decide_false,decide_true,zcf,zct,zad,zaa,zob]
  refine bs (a:=lit) (by rw [l1,h4];rfl) ?_
  exact bs (zaF (n:=59) (by omega)) (bs e9 rfl)
 by_cases k21:K=21
 ·subst k21
  obtain ⟨k,hk,e⟩:=zrr hx21 s1
  have hp:=zfc 32 x21
  have h2:=h1.adv hk
  obtain ⟨s9,e9,t9,m9,_⟩:=h2.pb.tw.setR (i:=23) (by omega) ((4*zbp 32 x21:Nat):Int)
  refine put (.tuple #[],s9) (zd6 h1 (by omega) (r:=up m.r 23 ((4*zbp 32 x21:Nat):Int)) (k:=m.k) (own:=m.own) (rn:=m.rn) (rx:=m.rx) (fl:=m.fl) t9 ((Mod.ofExt (Ext.advR s1 hk)).then m9) h.rn h.kk (U32.up h.rng.r 23 ⟨by omega,by omega⟩)) (pre _ ?_)
  simp only [Int.reduceEq,decide_false,decide_true,zcf,zct,zad,zaa,zob]
  refine bs (zaF (n:=21) (by omega)) (bs (a:=(x21:Int)) (by rw [← h21];exact h1.pb.tw.rw.ldR (by omega)) (bs e ?_))
  simp only [zob,zac]
  rw [show (4:Int)*(zbp 32 x21:Int)=((4*zbp 32 x21:Nat):Int) by omega,wrap64 (n:=((4*zbp 32 x21:Nat):Int)) (by omega) (by omega),zcN (n:=((4*zbp 32 x21:Nat):Int)) (by omega) (by omega)]
  exact bs (zaF (n:=23) (by omega)) (bs e9 rfl)
 refine put (.tuple #[],s1) (zd6 h1 k2 (r:=m.r) (k:=m.k) (own:=m.own) (rn:=m.rn) (rx:=m.rx) (fl:=m.fl) h1.pb.tw (.refl _) h.rn h.kk h.rng.r) (pre _ ?_)
 rw [zdf k1,zcf,zdf k2,zcf,zdf k3,zcf,zdf k4,zcf,zdf k6,zcf,zdf k7,zcf,zdf k15,zcf,zdf k16,zcf,zdf k17,zcf,zdf k18,zcf,zdf k20,zcf,zdf k21,zcf]
end
end Go.Proofs.YtlpigjmjgclgiaaDoorE
namespace Go.Proofs.YtlpigjmjgclgiaaDoorE
set_option maxRecDepth 100000
open Go Go.E Go.Proofs
structure Wo where
 alu:Int
 a:Int
 b:Int
 d:Int
 lit:Int
 size:Int
 cc:Int
 mem:Int
 seq:Int
 cond:Int
 to:Int
 misc:Int
def Wo.row (x:Wo):List Value:=[.int .i64 x.alu,.int .i64 x.a,.int .i64 x.b,.int .i64 x.d,.int .i64 x.lit,.int .i64 x.size,.int .i64 x.cc,.int .i64 x.mem,.int .i64 x.seq,.int .i64 x.cond,.int .i64 x.to,.int .i64 x.misc]
def Wo.val (x:Wo):Value:=.agg #[.int .i64 x.alu,.int .i64 x.a,.int .i64 x.b,.int .i64 x.d,.int .i64 x.lit,.int .i64 x.size,.int .i64 x.cc,.int .i64 x.mem,.int .i64 x.seq,.int .i64 x.cond,.int .i64 x.to,.int .i64 x.misc]
structure Wo.Ok (x:Wo):Prop where
 lit:0≤x.lit
 s0:0≤x.size
 s4:x.size<4
def OwnOk (m:PM):Prop:=m.own=1∨m.own=2∨m.own=4
section
variable {B : Nat} {st st' s1 s2 : SS} {b c d e n : Nat} {m m' : PM} {f f' : FM} {l l' : List Int} {sp sp' : List (Nat × Int)} {OL : List (Int × Int)} {S : List Nat} {u v w : Value} {x : Wo}
theorem znD (h:OwnOk m) {z:Int} (h0:0≤z) (h4:z<4):∃ n:Nat,sizeT m z=(n:Int)∧n≤4∧0<n:=by
 unfold sizeT
 by_cases h3:z=3
 ·rw [if_pos h3]
  rcases h with h | h | h<;>rw [h]
  ·exact ⟨1,rfl,by omega,by omega⟩
  ·exact ⟨2,rfl,by omega,by omega⟩
  ·exact ⟨4,rfl,by omega,by omega⟩
 ·rw [if_neg h3]
  have:z=0∨z=1∨z=2:=by omega
  rcases this with rfl | rfl | rfl
  ·exact ⟨1,rfl,by omega,by omega⟩
  ·exact ⟨2,rfl,by omega,by omega⟩
  ·exact ⟨4,rfl,by omega,by omega⟩
structure Iss (B:Nat) (st:SS) (b c:Nat) (m:PM) (f:FM) (sp:List (Nat×Int)) (OL:List (Int×Int)) (K:Int) (st':SS) (m':PM) (f':FM) (l':List Int) (sp':List (Nat×Int)):Prop where
 pg:Pg B st' b c m' f' l' sp' OL
 wt:0<m'.ws→m'.wt=16
 own:OwnOk m'
 was:m'.was=m.was
 len:sp'.length≤sp.length+1
 und:∀ R0 P0 K0 U0,Und R0 P0 K0 U0 m.was f sp→Und R0 P0 K0 U0 m.was f' sp'
 end':K=2→∀ R0 P0 K0 U0,Und R0 P0 K0 U0 m.was f sp→sp'=[]∧f'.r=R0∧f'.psl=P0
 keep:Keep B [b,c] st st'
theorem iss15 [Sym] (h:Pg B st b c m f l sp OL) (hs:sp.length<1000000) (hOL:∀ x∈OL,x.2=1∨x.2=2∨x.2=4) (how:OwnOk m) (hx:x.Ok) (h0:m.ws=0) (hd:At st d x.row) {to wx ws:Int} (he:At st e [.int .i64 to,.int .u32 wx,.int .i64 ws]) (hto:to= -1∨to=16) (hwx:U32 wx)
  (dS:d∉[b,c]) (eS:e∉[b,c]) (dB:NoB m.buf d) (eB:NoB m.buf e) (eF:NoB f.steps e) (a:Int):
  ∃ st' m' f' l' sp',za4 1000015 [ptr b 0,ptr d 0,.int .u32 a,ptr e 0] st=some (0,[],st')∧Iss B st b c m f sp OL x.misc st' m' f' l' sp':=by
 obtain ⟨n,hn,hn4,hn0⟩:=znD how hx.s0 hx.s4
 obtain ⟨s3,v3,r3,row3,l3,e3,g3,k3,q3⟩:=zry h (wv:=x.val) (w:=x.row) (Sz:=x.size) (M:=x.mem) ⟨rfl,rfl,rfl⟩ hx.s0 hn (by omega) a
 have d3:=k3.at' hd dS dB
 have e3':=k3.at' he eS eB
 have hB3:B≤s3.next:=g3.pb.hB
 obtain ⟨s6,r6,k6',own6,rn6,rx6,fl6,f6,sp6,e6,g6,len6,und6,end6,k6,q6,o6⟩:=zrA g3 hs (wv:=x.val) (w:=x.row) (K:=x.misc) (lit:=x.lit) rfl rfl rfl hx.lit a
 have e6':=k6.at' e3' eS eF
 have kA:Keep B [b,c] st s6:=(k3.keepB h.pb.hB (fun i hi=>h.noBuf (.inl hi))).then (k6.keepB hB3 (fun i hi=>g3.noStp (.inl hi)))
 have own':∀ m':PM,m'.own=own6→OwnOk m':=fun m' hm=>by
  unfold OwnOk
  rw [hm]
  rcases o6 with o6 | ⟨y,hy,o6⟩
  ·rw [o6];exact how
  ·rw [o6];exact hOL y hy
 have ldTo:(s6.ld e 0).bind (asI .i64)=some to:=by rw [e6'.ld];rfl
 rcases hto with hto | hto
 ·subst hto
  refine ⟨s6,_,f6,l3,sp6,zcR _ _ _ _ st ?_,⟨g6,fun hh=>?_,own' _ rfl,rfl,len6,und6,end6,kA⟩⟩
  ·unfold zcl
   simp only [zaa,zob]
   refine bs (a:=x.val) (by rw [hd.ldN (n:=12) rfl];rfl) (bs e3 (bs (a:=x.val) (by rw [d3.ldN (n:=12) rfl];rfl) (bs e6 (bs ldTo ?_))))
   simp only [Int.reduceNeg,Int.reduceEq,decide_false,zcf]
   exact bs ldTo rfl
  ·have hh':0<m.ws:=hh
   omega
 ·subst hto
  obtain ⟨s7,e7,a7,m7,_⟩:=g6.pb.tw.p.stV (k:=0+85) (v:=.agg #[.int .i64 16,.int .u32 wx,.int .i64 ws]) (vs:=[.int .i64 16,.int .u32 wx,.int .i64 ws]) (n:=3) rfl rfl rfl (PM.s85 _ 16 wx ws)
  have t7:=g6.pb.tw.modB a7 m7 rfl
  have g7:=g6.tw' t7 (inB m7) rfl rfl rfl g6.rn g6.kk ⟨g6.rng.r,hwx,g6.rng.was,g6.rng.fr,g6.rng.psl,g6.rng.ksp,g6.rng.usp⟩
  refine ⟨s7,_,f6,l3,sp6,zcR _ _ _ _ st ?_,⟨g7,fun _=>rfl,own' _ rfl,rfl,len6,und6,end6,kA.then ((inB m7).keepB g6.pb.hB)⟩⟩
  unfold zcl
  simp only [zaa,zob]
  refine bs (a:=x.val) (by rw [hd.ldN (n:=12) rfl];rfl) (bs e3 (bs (a:=x.val) (by rw [d3.ldN (n:=12) rfl];rfl) (bs e6 (bs ldTo ?_))))
  simp only [Int.reduceEq,decide_false,zcf]
  refine bs ldTo ?_
  rw [zdt (by omega),zct]
  refine bs (a:=.agg #[.int .i64 16,.int .u32 wx,.int .i64 ws]) (by rw [e6'.ldN (n:=3) rfl]) ?_
  simp only [zad,zaa,zob]
  exact bs e7 rfl
theorem PM.s78 (m:PM) (fl:Fl):zaI m.rw (0+78) fl.row=some (PM.rw { m with u:=fl }):=by
 rw [zbk (by rw [m.len];show 0+78+4≤88;omega)]
 refine congrArg some ?_
 have e1:m.rw.take (0+78)=ptr m.fp 0::(nums .u32 60 m.r++(nums .i64 6 m.k++m.tl.take 11)):=by
  unfold PM.rw
  rw [show 0+78=77+1 by rfl,List.take_succ_cons,List.take_append,zal,List.take_append,zal,List.take_of_length_le (by rw [zal];omega),List.take_of_length_le (by rw [zal];omega)]
 have e2:m.rw.drop (0+78+fl.row.length)=m.tl.drop 15:=by
  unfold PM.rw
  rw [show 0+78+fl.row.length=81+1 by rfl,List.drop_succ_cons,List.drop_append,zal,List.drop_append,zal,List.drop_of_length_le (by rw [zal];omega),List.drop_of_length_le (by rw [zal];omega)];rfl
 rw [e1,e2]
 unfold PM.rw PM.tl Fl.row
 simp
theorem zqa (m:PM) (OL:List (Int×Int)):zfH m OL 16=16:=by
 unfold zfH
 simp
end
end Go.Proofs.YtlpigjmjgclgiaaDoorE
namespace Go.Proofs.YtlpigjmjgclgiaaDoorE
set_option maxRecDepth 100000
open Go Go.E Go.Proofs
section
variable {B : Nat} {st st' s1 s2 : SS} {b c d e n : Nat} {m m' : PM} {f f' : FM} {l l' : List Int} {sp sp' : List (Nat × Int)} {OL : List (Int × Int)} {S : List Nat} {u v w : Value} {x : Wo}
theorem Und.setl {R0:Nat→Int} {P0 K0 U0 was:Int} (h:Und R0 P0 K0 U0 was f sp) (hw:0<m.ws→m.wt=16):Und R0 P0 K0 U0 was (zbh m f) sp:=by
 unfold zbh
 split
 ·rename_i h1
  rw [hw h1]
  unfold putQ
  rw [if_neg (by omega),zfJ (by omega)]
  exact h
 ·exact h
theorem iss7 [Sym] (h:Pg B st b c m f l sp OL) (hs:sp.length<1000000) (hOL:∀ x∈OL,x.2=1∨x.2=2∨x.2=4) (how:OwnOk m) (hw:0<m.ws→m.wt=16) (hx:x.Ok) (hD:x.alu≠0→x.d=16) (hd:At st d x.row) (dS:d∉[b,c]) (dB:NoB m.buf d) (a:Int) {bb:Int} (hb:U32 bb):
  ∃ st' m' f' l' sp',za4 1000007 [ptr b 0,ptr d 0,.int .u32 a,.int .u32 bb] st=some (0,[],st')∧Iss B st b c m f sp OL x.misc st' m' f' l' sp':=by
 obtain ⟨s7,e7,h7,k7⟩:=znA h
 obtain ⟨q1,q2,q3,q4,q5,q6,q7⟩:=zl1 m
 have d7:At s7 d x.row:=hd.mod k7 dS
 obtain ⟨sA,eA,aA,xA,nA⟩:=new_ok (st:=s7) h7.pb.tw.ll (row:=[.int .i64 (-1),.int .u32 0,.int .i64 0]) (r:=[.int .i64 0,.int .u32 0,.int .i64 0]) rfl rfl
 have hA:=h7.ext xA
 have dA:=d7.ext xA
 have lS:s7.next∉[b,c]:=by intro hh;simp only [List.mem_cons,List.not_mem_nil,or_false] at hh;have:=h7.pb.tw.p.lt;have:=h7.pb.tw.f.lt;omega
 have lB:NoB (zbb m).buf s7.next:=h7.noBuf (.inr (zlr _))
 have lF:NoB (zbh m f).steps s7.next:=h7.noStp (.inr (zlr _))
 have dB7:NoB (zbb m).buf d:=by rw [q1];exact dB
 have how7:OwnOk (zbb m):=by unfold OwnOk;rw [q7];exact how
 have kA:Mod [b,c] st sA:=k7.then (.ofExt xA)
 have wrapUp:∀ {sX sY:SS} {mX:PM} {fX:FM} {m':PM} {f':FM} {l':List Int} {sp':List (Nat×Int)},Mod [b,c] st sX→mX.was=m.was→(∀ R0 P0 K0 U0,Und R0 P0 K0 U0 m.was f sp→Und R0 P0 K0 U0 m.was fX sp)→Iss B sX b c mX fX sp OL x.misc sY m' f' l' sp'→Iss B st b c m f sp OL x.misc sY m' f' l' sp':=by
  intro sX sY mX fX m' f' l' sp' kX wX uX hI
  exact ⟨hI.pg,hI.wt,hI.own,hI.was.trans wX,hI.len,fun R0 P0 K0 U0 hu=>by have:=hI.und R0 P0 K0 U0;rw [wX] at this;exact this (uX R0 P0 K0 U0 hu),fun hK R0 P0 K0 U0 hu=>by have:=hI.end' hK R0 P0 K0 U0;rw [wX] at this;exact this (uX R0 P0 K0 U0 hu),(kX.keepB h.pb.hB).then hI.keep⟩
 have ldA:(sA.ld d 0).bind (asI .i64)=some x.alu:=by rw [dA.ld];rfl
 by_cases h0:x.alu=0
 ·obtain ⟨s9,m9,f9,l9,sp9,e9,i9⟩:=iss15 hA hs hOL how7 hx q6 dA aA (.inl rfl) .zero dS lS dB7 lB lF a
  refine ⟨s9,m9,f9,l9,sp9,zdc _ _ _ _ _ ?_,wrapUp kA q5 (fun _ _ _ _ hu=>hu.setl hw) i9⟩
  unfold zcx
  refine bs e7 ?_
  simp only [zaa,zob]
  refine bs eA (bs ldA ?_)
  rw [zdt h0]
  exact bs e9 rfl
 have hD:=hD h0
 obtain ⟨n,hn,hn4,hn0⟩:=znD how7 hx.s0 hx.s4
 have e8:=zlq hA.pb.tw.rw (n:=x.size) hx.s0
 rw [hn] at e8
 obtain ⟨sC,xv,fl,row,div,eC,ux,hC,kC⟩:=zqQ hA x.alu a hb (n:Int)
 have dC:=dA.mod kC dS
 have aC:=aA.mod kC lS
 obtain ⟨sD,eD,aD,xD,nD⟩:=zgG (st:=sC) hC.pb.tw.ll (r:=fl0) (v:=fl.val) (Fl.cells fl) (n:=4) rfl (Fl.one fl) rfl
 have hD':=hC.ext xD
 have dD:=dC.ext xD
 have lD:=aC.ext xD
 have fS:sC.next∉[b,c]:=by intro hh;simp only [List.mem_cons,List.not_mem_nil,or_false] at hh;have:=hC.pb.tw.p.lt;have:=hC.pb.tw.f.lt;omega
 obtain ⟨sE,eE,aE,mE,_⟩:=hD'.pb.tw.p.stV (k:=0+78) (v:=fl.val) (n:=4) (Fl.cells fl) rfl (Fl.one fl) (PM.s78 _ fl)
 have tE:=hD'.pb.tw.modB aE mE rfl
 have hE:=hD'.tw' tE (inB mE) rfl rfl rfl hD'.rn hD'.kk ⟨hD'.rng.r,hD'.rng.wx,hD'.rng.was,hD'.rng.fr,hD'.rng.psl,hD'.rng.ksp,hD'.rng.usp⟩
 have fE:At sE sC.next fl.row:=aD.mod (inB mE (c:=c)) fS
 have dE:=dD.mod (inB mE (c:=c)) dS
 have lE:=lD.mod (inB mE (c:=c)) lS
 obtain ⟨sF,eF,hF,kF⟩:=zrx hE fl x.cc
 have dF:=dE.mod kF dS
 have lF':=lE.mod kF lS
 have eG:=znp hF.pb.tw.rw hF.os x.d
 rw [hD,zqa] at eG
 obtain ⟨sH,eH,aH,mH,_⟩:=lF'.sto (k:=0) (vs:=[.int .i64 16,.int .u32 xv,.int .i64 (n:Int)]) (row':=[.int .i64 16,.int .u32 xv,.int .i64 (n:Int)]) rfl rfl
 have hbH:b≠s7.next:=fun e=>lS (by simp [e])
 have hcH:c≠s7.next:=fun e=>lS (by simp [e])
 have tH:=hF.pb.tw.modD mH hbH hcH
 have kSF:Mod [b,c] s7 sF:=(((Mod.ofExt xA).then kC).then (.ofExt xD)).then ((inB mE).then kF)
 have stF:(zbW (zbh m f) fl x.cc).steps=(zbh m f).steps:=by unfold zbW;split<;>first | exact zbX _ _ | (split<;>first | exact zbX _ _ | rfl)
 have fiH:Frm B [s7.next] (.bool true) sF sH:=.ofMod mH
 have hHB:B≤s7.next:=h7.pb.hB
 have hH:Pg B sH b c { { zbb m with row:=row,div:=div } with u:=fl } (zbW (zbh m f) fl x.cc) l sp OL:=by
  refine ⟨⟨tH,hF.pb.sl.keep mH.next fun i o q r e=>mH.keep i (hF.pb.sl.blk i o q r e).2 (fun hm=>?_),hF.pb.bB,hF.pb.cB,zlt hF.pb.hB mH.next,by rw [mH.lim];exact hF.pb.lB,hF.pb.len⟩,hF.s2.keep mH.next fun i o q r e=>mH.keep i (hF.s2.blk i o q r e).2 (fun hm=>?_),hF.sin,hF.dj,⟨hF.os.1.mod mH (fun i q r e hm=>?_),hF.os.2⟩,hF.lo,hF.tb.mod mH (fun i hm=>?_) hF.pb.tw.ll,hF.rn,hF.kk,hF.rng⟩
  ·simp at hm;subst hm;exact lB o q r e
  ·simp at hm;subst hm
   have e':(zbh m f).steps=.slice (some ⟨s7.next,o,none⟩) q r:=by rw [← stF];exact e
   exact lF o q r e'
  ·simp at hm;subst hm;have:=(hF.lo _ 0 q r e).1;omega
  ·simp at hm;subst hm;have:=hF.pb.lB;omega
 have dH:At sH d x.row:=dF.mod mH (by intro hm;simp at hm;subst hm;have:=hd.lt;have:=k7.next;omega)
 have howH:OwnOk ({ { zbb m with row:=row,div:=div } with u:=fl }:PM):=how7
 have lFH:NoB (zbW (zbh m f) fl x.cc).steps s7.next:=by rw [stF];exact lF
 obtain ⟨s9,m9,f9,l9,sp9,e9,i9⟩:=iss15 hH hs hOL howH hx q6 dH aH (.inr rfl) ux dS lS dB7 lB lFH a
 have kSH:Mod [b,c] st sH:=(k7.then kSF).trans mH fun j hj hlt=>by
  simp at hj;subst hj
  have:=k7.next;omega
 refine ⟨s9,m9,f9,l9,sp9,zdc _ _ _ _ _ ?_,wrapUp (mX:={ { zbb m with row:=row,div:=div } with u:=fl }) kSH q5 (fun _ _ _ _ hu=>(hu.setl hw).codes fl x.cc) i9⟩
 unfold zcx
 refine bs e7 ?_
 simp only [zaa,zob]
 refine bs eA (bs ldA ?_)
 rw [zdf h0]
 simp only [znf,zct]
 refine bs (a:=x.size) (by rw [dA.ld];rfl) (bs e8 ?_)
 simp only [zob,zac]
 refine bs ldA (bs eC ?_)
 refine bs (a:=xv) rfl (bs (a:=fl.val) rfl (bs eD (bs (a:=fl.val) (aD.ldN rfl) ?_)))
 simp only [zad,zaa,zob]
 refine bs eE (bs (a:=fl.val) (fE.ldN rfl) ?_)
 refine bs (a:=x.cc) (by rw [dE.ld];rfl) (bs eF (bs (a:=16) (by rw [dF.ld,← hD];rfl) (bs eG ?_)))
 simp only [zob,zac]
 exact bs eH (bs e9 rfl)
theorem zrB [Sym] (h:Pg B st b c m f l sp OL) (hs:sp.length<1000000) (hOL:∀ x∈OL,x.2=1∨x.2=2∨x.2=4) (how:OwnOk m) (hw:0<m.ws→m.wt=16) (hx:x.Ok) (hD:x.alu≠0→x.d=16):
  ∃ st' m' f' l' sp',cc 9 [ptr b 0,x.val] st=some (.tuple #[],st')∧Iss B st b c m f sp OL x.misc st' m' f' l' sp':=by
 obtain ⟨s1,hs1⟩:∃ s,s=st.new (.cells x.row 0):=⟨_,rfl⟩
 have x1:Ext st s1:=by rw [hs1];exact (Ext.refl st).new _
 have w1:At s1 st.next x.row:=by rw [hs1];exact At.new h.pb.tw.ll _
 have h1:=h.ext x1
 obtain ⟨n3,hn3,e3⟩:=znr (h1.pb.tw.rw.ro s1.next) h1.os.ro h1.hU x.a
 have hn3':s1.next≤n3:=hn3
 have h3:=h1.adv hn3'
 have w3:=w1.adv hn3'
 obtain ⟨n6,hn6,e6⟩:=znr h3.pb.tw.rw h3.os h3.hU x.b
 have h6:=h3.adv hn6
 have w6:=w3.adv hn6
 have k6:Ext st ((s1.adv n3).adv n6):=(x1.trans (Ext.advR s1 hn3')).trans (Ext.advR _ hn6)
 have dS:st.next∉[b,c]:=by intro hh;simp only [List.mem_cons,List.not_mem_nil,or_false] at hh;have:=h.pb.tw.p.lt;have:=h.pb.tw.f.lt;omega
 have dB:NoB m.buf st.next:=h.noBuf (.inr (zlr _))
 obtain ⟨av,hav⟩:∃ a,a=(if x.a=41 then IntKind.wrap .u32 x.lit else getT m f OL l.length x.a):=⟨_,rfl⟩
 obtain ⟨bv,hbv⟩:∃ a,a=(if x.b=41 then IntKind.wrap .u32 x.lit else getT m f OL l.length x.b):=⟨_,rfl⟩
 have ub:U32 bv:=by rw [hbv];exact .ite (.wrap _) (h.rng.get _)
 obtain ⟨s9,m9,f9,l9,sp9,e9,i9⟩:=iss7 h6 hs hOL how hw hx hD w6 dS dB av ub
 refine ⟨s9,m9,f9,l9,sp9,zhA _ _ st ?_,⟨i9.pg,i9.wt,i9.own,i9.was,i9.len,i9.und,i9.end',(k6.keepB h.pb.hB).then i9.keep⟩⟩
 unfold zfC
 rw [show x.val.cells.toList=x.row from rfl]
 simp only
 rw [← hs1]
 refine bs (a:=x.a) (by rw [w1.ld];rfl) (bs e3 ?_)
 simp only [zob,zac]
 rw [show ((s1.ro s1.next).adv n3).ro s1.lim=s1.adv n3 from rfl]
 refine bs (a:=x.b) (by rw [w3.ld];rfl) (bs e6 ?_)
 simp only [zob,zac]
 refine bs (a:=x.a) (by rw [w6.ld];rfl) ?_
 have lb:(((s1.adv n3).adv n6).ld st.next 2).bind (asI .i64)=some x.b:=by rw [w6.ld];rfl
 have ll:(((s1.adv n3).adv n6).ld st.next 4).bind (asI .i64)=some x.lit:=by rw [w6.ld];rfl
 by_cases ha:x.a=41
 ·rw [if_pos ha] at hav
  rw [zdt ha,zct]
  refine bs ll (bs lb ?_)
  by_cases hbb:x.b=41
  ·rw [if_pos hbb] at hbv
   rw [zdt hbb,zct]
   refine bs ll ?_
   rw [← hav]
   rw [hbv,← hav] at e9
   exact bs e9 rfl
  ·rw [if_neg hbb] at hbv
   rw [zdf hbb,zcf]
   rw [hav,hbv] at e9
   exact bs e9 rfl
 ·rw [if_neg ha] at hav
  rw [zdf ha,zcf]
  refine bs lb ?_
  by_cases hbb:x.b=41
  ·rw [if_pos hbb] at hbv
   rw [zdt hbb,zct]
   refine bs ll ?_
   rw [hav,hbv] at e9
   exact bs e9 rfl
  ·rw [if_neg hbb] at hbv
   rw [zdf hbb,zcf]
   rw [hav,hbv] at e9
   exact bs e9 rfl
end
end Go.Proofs.YtlpigjmjgclgiaaDoorE
namespace Go.Proofs.YtlpigjmjgclgiaaDoorE
set_option maxRecDepth 100000
open Go Go.E Go.Proofs
def Wo.pts (x:Wo):List Int:=[x.alu,x.a,x.b,x.d,x.lit,x.size,x.cc,x.mem,x.seq,x.cond,x.to,x.misc]
def zf2:List Int:=[32,64,64,64,256,4,4,16,8,32,2048,64]
def zcH (l:List Int):List Value:=l.map (Value.int .i64)
section
variable {st st' s : SS} {j : Nat} {x : Wo}
theorem sl12 {l:List Int} (hl:l.length=12) (hg:s.mem.get j=some (.cells (zcH l) 1)) (hj:j<s.next):SL 0 s 1 (.slice (some ⟨j,0,none⟩) 12 12) (zcH l) 12:=
 ⟨by simp [zcH,hl],.inr ⟨j,0,12,zcH l,rfl,zlr _,hg,by simp [zcH,hl],by rw [List.drop_zero,List.take_of_length_le (by simp [zcH,hl])],Nat.zero_le _,hj⟩⟩
theorem at12 {l:List Int} (hl:l.length=12) (hg:s.mem.get j=some (.cells (zcH l) 1)) (hj:j<s.next) {i:Nat} (hi:i<12):∃ p,za8 (.slice (some ⟨j,0,none⟩) 12 12) (i:Int) 1=some p∧(s.ld p.1 p.2).bind (asI .i64)=some (l.getD i 0):=by
 obtain ⟨p,e1,_,e2⟩:=(sl12 hl hg hj).load hi
 have hx:((zcH l).drop (i*1)).take 1=[.int .i64 (l.getD i 0)]:=by
  unfold zcH
  rw [Nat.mul_one,← List.map_drop,List.drop_eq_getElem_cons (by omega),List.getD_eq_getElem?_getD,zge (by omega)];rfl
 refine ⟨p,e1,?_⟩
 have:=e2 0 (.int .i64 (l.getD i 0)) (by rw [hx];rfl)
 rw [Nat.add_zero] at this
 rw [this];rfl
theorem zrC [Sym] (s:SS):cc 39 [] s=some (.slice (some ⟨s.next,0,none⟩) 12 12,s.new (.cells (zcH zf2) 1)):=zgF s rfl
theorem zl3 [Sym] {l:List Int} (hl:l.length=12):∀ (k i:Nat) (s:SS),i+k=12→s.mem.get j=some (.cells (zcH l) 1)→j<s.next→
  ∃ e s',zbl 2 [.slice (some ⟨j,0,none⟩) 12 12,.int .i64 12,.int .i64 (i:Int)] s=some (e.1,e.2,s')∧Ext s s'∧((e=(0,[])∧∀ q,i≤q→q<12→0≤l.getD q 0∧l.getD q 0<zf2.getD q 0)∨e=(1,[.bool false]))
 | 0,i,s,hi,hg,hj=>by
   refine ⟨(0,[]),s,zbL _ _ _ s ?_,.refl _,.inl ⟨rfl,fun q h1 h2=>by omega⟩⟩
   unfold zbt
   rw [zdf (by omega)];rfl
 | k+1,i,s,hi,hg,hj=>by
   have hi12:i<12:=by omega
   obtain ⟨p,e1,e2⟩:=at12 hl hg hj hi12
   by_cases h0:l.getD i 0<0
   ·refine ⟨(1,[.bool false]),s,zbL _ _ _ s ?_,.refl _,.inr rfl⟩
    unfold zbt
    rw [zdt (by omega),zct]
    refine bs e1 (bs e2 ?_)
    rw [zdt h0];rfl
   have x3:Ext s (s.new (.cells (zcH zf2) 1)):=(Ext.refl s).new _
   obtain ⟨p4,e4,e5⟩:=at12 (l:=zf2) rfl (SS.new_get (st:=s)) (show s.next<(s.new (.cells (zcH zf2) 1)).next from Nat.lt_succ_self _) hi12
   have head:∀ r,(cond (decide (zf2.getD i 0≤l.getD i 0)) _ _:Option (Nat×List Value×SS))=some r→zbl 2 [.slice (some ⟨j,0,none⟩) 12 12,.int .i64 12,.int .i64 (i:Int)] s=some r:=fun r hr=>by
    refine zbL _ _ _ s ?_
    unfold zbt
    rw [zdt (by omega),zct]
    refine bs e1 (bs e2 ?_)
    rw [zdf h0,zcf]
    exact bs (zrC s) (bs e4 (bs e5 hr))
   by_cases h1:zf2.getD i 0≤l.getD i 0
   ·exact ⟨(1,[.bool false]),_,head _ (by rw [zdt h1];rfl),x3,.inr rfl⟩
   ·obtain ⟨e,s',e6,x6,h6⟩:=zl3 hl k (i+1) (s.new (.cells (zcH zf2) 1)) (by omega) (x3.get hj hg) (zll hj x3.next)
    refine ⟨e,s',head _ ?_,x3.trans x6,?_⟩
    ·rw [zdf h1,zcf]
     simp only
     rw [show IntKind.wrap .i64 ((i:Int)+1)=((i+1:Nat):Int) by rw [wrap64 (by omega) (by omega)];omega]
     exact e6
    ·rcases h6 with ⟨he,hq⟩ | he
     ·refine .inl ⟨he,fun q q1 q2=>?_⟩
      by_cases hqi:q=i
      ·subst hqi;omega
      ·exact hq q (by omega) q2
     ·exact .inr he
theorem zrD [Sym] (x:Wo) (st:SS):∃ g n,st.next≤n∧cc 16 [x.val] st=some (.bool g,st.adv n)∧(g=true→x.Ok):=by
 obtain ⟨s0,hs0⟩:∃ s,s=(st.ro st.next).new (.cells x.row 0):=⟨_,rfl⟩
 have l0:s0.ldN (st.ro st.next).next 0 12=some x.val:=by rw [hs0,zfz];rfl
 have eP:cc 38 [x.val] s0=some (.slice (some ⟨(s0.new (.cells x.row 0)).next,0,none⟩) 12 12,(s0.new (.cells x.row 0)).new (.cells (zcH x.pts) 1)):=by
  refine zgf _ s0 ?_
  unfold zd8
  rw [show x.val.cells.toList=x.row from rfl]
  have l:∀ i,(s0.new (.cells x.row 0)).ld s0.next i=x.row[i]?:=fun i=>zep
  refine bs (a:=x.alu) (by rw [l];rfl) (bs (a:=x.a) (by rw [l];rfl) (bs (a:=x.b) (by rw [l];rfl) (bs (a:=x.d) (by rw [l];rfl) (bs (a:=x.lit) (by rw [l];rfl) (bs (a:=x.size) (by rw [l];rfl) (bs (a:=x.cc) (by rw [l];rfl) (bs (a:=x.mem) (by rw [l];rfl) (bs (a:=x.seq) (by rw [l];rfl) (bs (a:=x.cond) (by rw [l];rfl) (bs (a:=x.to) (by rw [l];rfl) (bs (a:=x.misc) (by rw [l];rfl) rfl)))))))))))
 obtain ⟨e,s5,e5,x5,h5⟩:=zl3 (j:=(s0.new (.cells x.row 0)).next) (l:=x.pts) rfl 12 0 ((s0.new (.cells x.row 0)).new (.cells (zcH x.pts) 1)) rfl SS.new_get (Nat.lt_succ_self _)
 have hn:st.next≤s5.next:=by
  have h1:st.next≤s0.next:=by rw [hs0];exact Nat.le_succ _
  have h2:s0.next≤((s0.new (.cells x.row 0)).new (.cells (zcH x.pts) 1)).next:=zlt (Nat.le_succ _) (Nat.le_succ _)
  exact zlt h1 (zlt h2 x5.next)
 have pre:∀ r,(cond (Nat.beq e.1 0) _ _:Option (Value×SS))=some r→cc 16 [x.val] st=some r:=fun r hr=>by
  refine zgC _ st ?_
  unfold zeF
  rw [show x.val.cells.toList=x.row from rfl]
  simp only
  rw [← hs0]
  refine bs l0 (bs eP (bs (a:=12) rfl (bs e5 ?_)))
  exact hr
 rcases h5 with ⟨he,hq⟩ | he
 ·subst he
  refine ⟨true,s5.next,hn,pre _ rfl,fun _=>⟨?_,?_,?_⟩⟩
  ·exact (hq 4 (by omega) (by omega)).1
  ·exact (hq 5 (by omega) (by omega)).1
  ·exact (hq 5 (by omega) (by omega)).2
 ·subst he
  exact ⟨false,s5.next,hn,pre _ rfl,fun h=>by cases h⟩
theorem zrE (r:Nat→Int):eqA Tryd.prog Lk0 40 (.agg (nums .u32 16 r).toArray) (.agg (nums .u32 16 r).toArray)=some (((List.range 16).map fun j=>decide (r j=r j)).foldr (·&&·) true):=by kernel_rfl
theorem eq16 (r:Nat→Int):eqA Tryd.prog Lk0 40 (.agg (nums .u32 16 r).toArray) (.agg (nums .u32 16 r).toArray)=some true:=by
 rw [zrE]
 simp only [decide_true]
 rfl
end
end Go.Proofs.YtlpigjmjgclgiaaDoorE
namespace Go.Proofs.YtlpigjmjgclgiaaDoorE
set_option maxRecDepth 100000
open Go Go.E Go.Proofs
theorem ziI (x:Wo):x.row.length=12:=rfl
def zlx:StM:=⟨fun _=>0,0,0,0,0,0,0,0,0,0,0⟩
section
variable {B G : Nat} {st st' s1 s2 : SS} {b c d e n sd : Nat} {m m' : PM} {f f' : FM} {l l' : List Int} {sp sp' : List (Nat × Int)} {ws : List Wo} {wv : Value} {sM : StM}
structure Ui (B:Nat) (st:SS) (b c:Nat) (m:PM) (f:FM) (l:List Int) (sp:List (Nat×Int)) (sM:StM) (k:Nat):Prop where
 pg:Pg B st b c m f l sp []
 wt:0<m.ws→m.wt=16
 own:OwnOk m
 len:sp.length≤k
 und:Und sM.r sM.psl sM.ksp sM.usp m.was f sp
theorem Ui.issue [Sym] {x:Wo} {k:Nat} (h:Ui B st b c m f l sp sM k) (hk:k<1000000) (hx:x.Ok) (hD:x.alu≠0→x.d=16):
  ∃ st' m' f' l' sp',cc 9 [ptr b 0,x.val] st=some (.tuple #[],st')∧Ui B st' b c m' f' l' sp' sM (k+1)∧Keep B [b,c] st st'∧(x.misc=2→sp'=[]∧f'.r=sM.r∧f'.psl=sM.psl):=by
 obtain ⟨s',m',f',l',sp',e,i⟩:=zrB h.pg (by have:=h.len;omega) (by simp) h.own h.wt hx hD
 exact ⟨s',m',f',l',sp',e,⟨i.pg,i.wt,i.own,by have:=i.len;have:=h.len;omega,by rw [i.was];exact i.und _ _ _ _ h.und⟩,i.keep,fun hm=>i.end' hm _ _ _ _ h.und⟩
theorem Ui.ext {k:Nat} (h:Ui B st b c m f l sp sM k) (x:Ext st st'):Ui B st' b c m f l sp sM k:=⟨h.pg.ext x,h.wt,h.own,h.len,h.und⟩
structure Wl (G:Nat) (st:SS) (wv:Value) (ws:List Wo) (sd:Nat) (sM:StM):Prop where
 rg:Rg st wv (rowsF Wo.row ws) 12 ws.length
 low:∀ i o l q,wv=.slice (some ⟨i,o,none⟩) l q→i<G
 s:st.mem.get sd=some (.cells sM.row 0)
theorem Wl.keepB (h:Wl G st wv ws sd sM) (k:Keep B [b,c] st st') (hB:G≤B) (hb:G≤b) (hc:G≤c) (hsB:sd<B) (hsb:sd∉[b,c]):Wl G st' wv ws sd sM:=
 ⟨h.rg.keep k.next fun i l q e hi=>by have:=h.low i 0 l q e;exact k.keep i (by omega) (by simp;omega),h.low,(k.keep sd hsB hsb).trans h.s⟩
theorem Wl.ext (h:Wl G st wv ws sd sM) (k:Ext st st') (hs:sd<st.next):Wl G st' wv ws sd sM:=⟨h.rg.ext k,h.low,k.get hs h.s⟩
theorem zl4 [Sym] (hGB:G≤B) (hGb:G≤b) (hGc:G≤c) (hsB:sd<B) (hsb:sd∉[b,c]) (h60:ws.length≤60):∀ (j i:Nat) (st:SS) (m:PM) (f:FM) (l:List Int) (sp:List (Nat×Int)),i+j=ws.length→Ui B st b c m f l sp sM i→Wl G st wv ws sd sM→
  ∃ e st',za1 7 [ptr sd 0,ptr b 0,wv,.int .i64 (ws.length:Int),.int .i64 (i:Int)] st=some (e.1,e.2,st')∧((e=(0,[ptr sd 0,ptr b 0])∧∃ m' f' l' sp',Ui B st' b c m' f' l' sp' sM ws.length∧Wl G st' wv ws sd sM)∨e=(1,[.bool true]))
 | 0,i,st,m,f,l,sp,hi,h,hW=>by
   have:i=ws.length:=by omega
   subst this
   refine ⟨(0,[ptr sd 0,ptr b 0]),st,zb1 _ _ _ _ _ st ?_,.inl ⟨rfl,m,f,l,sp,h,hW⟩⟩
   unfold zbx
   rw [zdf (by omega)];rfl
 | j+1,i,st,m,f,l,sp,hi,h,hW=>by
   have hlt:i<ws.length:=by omega
   obtain ⟨p,e1,e2,_⟩:=hW.rg.load (j:=(i:Int)) (by omega) (by omega) (zdE ziI ws i ws[i] (zge hlt)) (ziI _)
   obtain ⟨s4,e4,a4,x4,n4⟩:=zgG (st:=st) h.pg.pb.tw.ll (r:=[.int .i64 0,.int .i64 0,.int .i64 0,.int .i64 0,.int .i64 0,.int .i64 0,.int .i64 0,.int .i64 0,.int .i64 0,.int .i64 0,.int .i64 0,.int .i64 0]) (v:=ws[i].val) (row:=ws[i].row) rfl (n:=12) rfl rfl rfl
   obtain ⟨g,k6,hk6,e6,hg⟩:=zrD ws[i] s4
   have a6:=a4.adv hk6
   have x6:=x4.trans (Ext.advR s4 hk6)
   have head:∀ r,(cond (!g) _ _:Option (Nat×List Value×SS))=some r→za1 7 [ptr sd 0,ptr b 0,wv,.int .i64 (ws.length:Int),.int .i64 (i:Int)] st=some r:=fun r hr=>by
    refine zb1 _ _ _ _ _ st ?_
    unfold zbx
    rw [zdt (by omega),zct]
    refine bs e1 (bs (a:=ws[i].val) e2 (bs e4 (bs (a:=ws[i].val) (a4.ldN rfl) (bs e6 ?_))))
    simp only [zob,zat]
    exact hr
   cases g with
   | false=>exact ⟨(1,[.bool true]),_,head _ rfl,.inr rfl⟩
   | true=>
     have hok:=hg rfl
     obtain ⟨s8,e8,a8,m8,_⟩:=a6.w (k:=3) (x:=.int .i64 16) (row':=({ ws[i] with d:=16 }:Wo).row) (by show 3<12;omega) rfl rfl
     have x8:Ext st s8:=(((Mod.ofExt x6).then (S:=[st.next]) m8)).fresh (by simp)
     have h8:=h.ext x8
     obtain ⟨s10,m10,f10,l10,sp10,e10,h10,k10,_⟩:=h8.issue (x:={ ws[i] with d:=16 }) (by omega) ⟨hok.lit,hok.s0,hok.s4⟩ (fun _=>rfl)
     have hsn:sd<st.next:=by have:=h.pg.pb.hB;omega
     obtain ⟨ee,s11,e11,h11⟩:=zl4 hGB hGb hGc hsB hsb h60 j (i+1) s10 m10 f10 l10 sp10 (by omega) h10 ((hW.ext x8 hsn).keepB k10 hGB hGb hGc hsB hsb)
     refine ⟨ee,s11,head _ ?_,h11⟩
     simp only [znt,zcf]
     refine bs e8 (bs (a:=({ ws[i] with d:=16 }:Wo).val) (a8.ldN rfl) (bs e10 ?_))
     rw [show IntKind.wrap .i64 ((i:Int)+1)=((i+1:Nat):Int) by rw [wrap64 (by omega) (by omega)];omega]
     exact e11
theorem zoD [Sym] (h:Rw st b c m f):cc 18 [ptr b 0] st=some (ptr c 0,st):=by
 refine ziD _ st ?_
 unfold zf0
 simp only [zad,zaa,zob]
 exact bs h.ld0 rfl
def wUndo:Wo:=⟨0,0,0,0,0,0,0,0,0,0,0,2⟩
theorem zrF [Sym] (hl:st.lim≤st.next) (ht:Tb st) (hr:∀ i,U32 (sM.r i)) (hp:U32 sM.psl) (hk:U32 sM.ksp) (hu:U32 sM.usp):∃ st' b c m f,cc 15 [sM.val] st=some (ptr b 0,st')∧Ui st'.next st' b c m f [] [] sM 0∧Ext st st'∧st.next≤b∧st.next≤c:=by
 have x1:Ext st (st.new (.cells sM.row 0)):=(Ext.refl st).new _
 obtain ⟨s1,hs1⟩:∃ s,s=st.new (.cells sM.row 0):=⟨_,rfl⟩
 rw [← hs1] at x1
 have a1:At s1 st.next sM.row:=by rw [hs1];exact At.new hl _
 have hl1:=x1.ll hl
 obtain ⟨e2,a2⟩:=zro (st:=s1) hl1
 obtain ⟨s2,hs2⟩:∃ s,s=s1.new (.cells fm0.row 0):=⟨_,rfl⟩
 have x2:Ext s1 s2:=by rw [hs2];exact (Ext.refl s1).new _
 rw [← hs2] at e2 a2
 have hl2:=x2.ll hl1
 have a2':=a1.ext x2
 obtain ⟨s4,e4,a4,k4⟩:=zqG a2 hl2 sM
 have hl4:=k4.ll hl2
 obtain ⟨s5,e5,t5,k5⟩:=zrp a4 hl4
 have f5:begQ (pm0 s1.next) (⟨sM.r,sM.psl,sM.ksp,sM.usp,.slice none 0 0⟩:FM)=⟨sM.r,sM.psl,sM.ksp,sM.usp,.slice none 0 0⟩:=rfl
 rw [f5] at t5
 have hn1:st.next≤s1.next:=x1.next
 have hn2:s1.next≤s2.next:=x2.next
 have hn4:s2.next≤s4.next:=k4.next
 have hn5:s4.next≤s5.next:=k5.next
 have xA:Ext st s5:=by
  have kk:Mod [s1.next] st s5:=((Mod.ofExt (x1.trans x2)).then k4).then k5
  exact kk.fresh (by simp;omega)
 have bl:s4.next<s5.next:=t5.p.lt
 have cl:s1.next<s5.next:=t5.f.lt
 have rc:∀ i,U32 (zls (up (fun _=>0) 46 (sM.r 15)) i):=fun i=>by
  unfold zls up
  exact .ite .zero (.ite (hr 15) .zero)
 have noN:∀ i,NoB (.slice none 0 0) i:=fun i o q r e=>by cases e
 refine ⟨s5,s4.next,s1.next,begP (pm0 s1.next) (⟨sM.r,sM.psl,sM.ksp,sM.usp,.slice none 0 0⟩:FM),⟨sM.r,sM.psl,sM.ksp,sM.usp,.slice none 0 0⟩,?_,⟨⟨⟨t5,SL.nil,bl,cl,zlr _,t5.ll,by simp⟩,SL.nil,by simp,fun i hi=>absurd (noN i) hi,⟨zkU _ _,by simp⟩,fun i k l q e=>(by cases e),ht.ext xA hl,⟨Int.le_refl 0,show (0:Int)<16 by omega⟩,fun i=>show (-1:Int)<16 by omega,⟨rc,.zero,hp,hr,hp,hk,hu⟩⟩,fun hh=>by have:(0:Int)<0:=hh;omega,.inr (.inr rfl),by simp,⟨rfl,rfl,rfl,rfl,rfl⟩⟩,xA,by omega,hn1⟩
 refine zgQ _ st ?_
 unfold zeL
 rw [show sM.val.cells.toList=sM.row by unfold StM.val;exact zeM _]
 simp only
 rw [← hs1]
 refine bs e2 (bs (a:=sM.val) (by rw [a2'.ldN sM.len];rfl) (bs e4 (bs e5 rfl)))
theorem zrG [Sym] (hl:st.lim≤st.next) (ht:Tb st) (hG:G≤st.lim) (hal:∃ n,(st.new (.cells sM.row 0)).next≤n∧cc 6 [] (st.new (.cells sM.row 0))=some (.bool true,(st.new (.cells sM.row 0)).adv n))
  (hr:∀ i,U32 (sM.r i)) (hp:U32 sM.psl) (hk:U32 sM.ksp) (hu:U32 sM.usp) (hrg:Rg st wv (rowsF Wo.row ws) 12 ws.length) (hlow:∀ i o l q,wv=.slice (some ⟨i,o,none⟩) l q→i<G):
  ∃ s',cc 5 [sM.val,wv] st=some (.bool true,s'):=by
 obtain ⟨n2,hn2,e2⟩:=hal
 have x1:Ext st (st.new (.cells sM.row 0)):=(Ext.refl st).new _
 obtain ⟨s1,hs1⟩:∃ s,s=st.new (.cells sM.row 0):=⟨_,rfl⟩
 rw [← hs1] at e2 x1 hn2
 have a1:At s1 st.next sM.row:=by rw [hs1];exact At.new hl _
 have hl1:=x1.ll hl
 have x2:Ext st (s1.adv n2):=x1.trans (Ext.advR s1 hn2)
 have hl2:(s1.adv n2).lim≤(s1.adv n2).next:=x2.ll hl
 have a2:=a1.adv hn2
 have r2:=hrg.ext x2
 have pre:∀ r,(cond (decide (60<(ws.length:Int))) _ _:Option (Value×SS))=some r→cc 5 [sM.val,wv] st=some r:=fun r hr=>by
  refine zeO _ _ st ?_
  unfold zcW
  rw [show sM.val.cells.toList=sM.row by unfold StM.val;exact zeM _]
  simp only
  rw [← hs1]
  refine bs e2 ?_
  simp only [zob,zat,znt,zcf]
  exact bs r2.lenI hr
 by_cases h60:60<(ws.length:Int)
 ·exact ⟨_,pre _ (by rw [zdt h60];rfl)⟩
 obtain ⟨s3,b,c,m3,f3,e3,h3,x3,hb3,hc3⟩:=zrF hl2 (ht.ext x2 hl) hr hp hk hu
 have a3:=a2.ext x3
 have hsn:st.next<s3.next:=a3.lt
 have hsn1:st.next<(s1.adv n2).next:=a2.lt
 have hlim3:s3.lim=st.lim:=x3.lim.trans x2.lim
 have hsb:st.next∉[b,c]:=by intro hh;simp only [List.mem_cons,List.not_mem_nil,or_false] at hh;omega
 have W3:Wl G s3 wv ws st.next sM:=⟨r2.ext x3,hlow,a3.1⟩
 have hGB:G≤s3.next:=by omega
 obtain ⟨ee,s4,e4,h4⟩:=zl4 hGB (by omega) (by omega) hsn hsb (by omega) ws.length 0 s3 m3 f3 [] [] (by omega) h3 W3
 rcases h4 with ⟨he,m4,f4,l4,sp4,h4,W4⟩ | he
 ·subst he
  obtain ⟨s5,m5,f5,l5,sp5,e5,h5,k5,q5⟩:=h4.issue (x:=wUndo) (by omega) ⟨show (0:Int)≤0 by omega,show (0:Int)≤0 by omega,show (0:Int)<4 by omega⟩ (fun hh=>absurd rfl hh)
  obtain ⟨z1,z2,z3⟩:=q5 rfl
  subst z1
  obtain ⟨s6,e6,g6,k6⟩:=znA h5.pg
  have hQ:zbh m5 f5=f5:=by
   unfold zbh
   split
   ·rename_i hw
    rw [h5.wt hw]
    unfold putQ
    rw [if_neg (by omega),zfJ (by omega)]
   ·rfl
  rw [hQ] at g6
  have e7:=zoD g6.pb.tw.rw
  obtain ⟨n8,hn8,e8⟩:=zqI g6.pb.tw.f zlx
  have g8:=g6.adv hn8
  have hsb6:st.next<s3.next:=hsn
  have W5:=W4.keepB k5 hGB (by omega) (by omega) hsn hsb
  have sd6:(s6.adv n8).mem.get st.next=some (.cells sM.row 0):=(k6.keep st.next (by have:=h5.pg.pb.hB;omega) hsb).trans W5.s
  obtain ⟨s9,e9,a9,x9,n9⟩:=zgG (st:=s6.adv n8) g8.pb.tw.ll (r:=zlx.row) (v:=(zew f5 zlx).val) (row:=(zew f5 zlx).row) (by unfold StM.val;exact zeM _) (n:=26) (StM.len _) (StM.one _) (StM.len _)
  have g9:=g8.ext x9
  have sd9:s9.mem.get st.next=some (.cells sM.row 0):=x9.get (by have:=g8.pb.hB;omega) sd6
  have hr5:(zew f5 zlx).r=sM.r:=z2
  have l17:s9.ldN (s6.adv n8).next 0 16=some (.agg (nums .u32 16 sM.r).toArray):=by
   rw [a9.ldC (StM.cut16 _),hr5]
  have l19:s9.ldN st.next 0 16=some (.agg (nums .u32 16 sM.r).toArray):=by rw [SS.ldN_cells sd9,StM.cut16];rfl
  have lA:∀ i,s9.ld (s6.adv n8).next i=(zew f5 zlx).row[i]?:=fun i=>a9.ld
  have lS:∀ i,s9.ld st.next i=sM.row[i]?:=fun i=>SS.ld_cells sd9
  have e30:=zoD g9.pb.tw.rw
  have e31:=ziF (st:=s9) g9.pb.tw.f.mem (k:=0) g9.s2.len
  refine ⟨s9,pre _ ?_⟩
  rw [zdf h60,zcf]
  refine bs (a:=sM.val) (by rw [a2.ldN sM.len];rfl) (bs e3 (bs (r2.ext x3).lenI (bs e4 ?_)))
  rw [show Nat.beq 0 0=true from rfl,zct]
  refine bs (x:=[ptr st.next 0,ptr b 0][0]?) (a:=ptr st.next 0) rfl ?_
  refine bs (x:=[ptr st.next 0,ptr b 0][1]?) (a:=ptr b 0) rfl ?_
  refine bs e5 (bs e6 (bs e7 (bs e8 (bs e9 (bs l17 ?_)))))
  simp only [zaa,zob]
  refine bs l19 ?_
  rw [eq16]
  simp only [zob,zat,zct]
  refine bs (a:=f5.psl) (by rw [lA];rfl) (bs (a:=sM.psl) (by rw [lS];rfl) ?_)
  rw [zdt z3,zct]
  refine bs (a:=f5.ksp) (by rw [lA];rfl) (bs (a:=sM.ksp) (by rw [lS];rfl) ?_)
  rw [zdt h5.und.k,zct]
  refine bs (a:=f5.usp) (by rw [lA];rfl) (bs (a:=sM.usp) (by rw [lS];rfl) ?_)
  rw [zdt h5.und.u,zct]
  exact bs e30 (bs e31 rfl)
 ·subst he
  refine ⟨s4,pre _ ?_⟩
  rw [zdf h60,zcf]
  refine bs (a:=sM.val) (by rw [a2.ldN sM.len];rfl) (bs e3 (bs (r2.ext x3).lenI (bs e4 ?_)))
  rfl
end
end Go.Proofs.YtlpigjmjgclgiaaDoorE
namespace Go.Proofs.YtlpigjmjgclgiaaDoorE
set_option maxRecDepth 1000000
open Go Go.E Go.Proofs
def zd7 (P:Program):Nat→TypeId→Option (List CK)
 | 0,_=>none
 | d+1,t=>match P.underlying t with
   | some .bool=>some [.b]
   | some (.int k)=>some [.i k]
   | some .string=>some [.s]
   | some (.struct fs)=>(zdR (zd7 P d) P fs.toList 0).bind fun l=>cond (Nat.beq (P.cellsOf t) l.length) (some l) none
   | some (.array n e)=>(zd7 P d e).bind fun a=>cond (Nat.beq (P.cellsOf e) a.length&&Nat.beq (P.cellsOf t) (n*a.length)) (some (List.replicate n a).flatten) none
   | _=>none
section
variable {H : Type} {enc : TypeId × Value → H} {P : Program} {w : World} {base : Nat} {spare : Nat → Bool} {held : Bool}
theorem zhv {d n:Nat} {cs:List Value} (ih:∀ t cs x ks,zd7 P d t=some ks→DataW.trod enc P w base spare held n t cs=some x→Cks ks cs):∀ (fs:List Field) (o:Nat) (ks:List CK),
  zdR (zd7 P d) P fs o=some ks→(∀ f∈fs,∃ y,DataW.trod enc P w base spare held n f.type ((cs.drop f.offset).take (P.cellsOf f.type))=some y)→Cks ks ((cs.drop o).take ks.length)
 | [],o,ks,h,_=>by simp only [zdR,zsj] at h;subst h;simp [Cks]
 | f::fs,o,ks,h,hy=>by
   simp only [zdR,zbi] at h
   obtain ⟨a,ha,h⟩:=h
   cases hb:(Nat.beq f.offset o&&Nat.beq (P.cellsOf f.type) a.length) with
   | false=>rw [hb] at h;cases h
   | true=>
     rw [hb] at h
     simp only [zct,zbi,zsj] at h
     obtain ⟨r,hr,rfl⟩:=h
     simp only [zae,zan,decide_eq_true_eq] at hb
     obtain ⟨y,h1⟩:=hy f (by simp)
     have k1:=ih _ _ _ _ ha h1
     have k2:=zhv ih fs _ _ hr fun g hg=>hy g (by simp [hg])
     rw [hb.1,hb.2] at k1
     rw [List.length_append,List.take_add,List.drop_drop]
     exact k1.append k2
theorem ziJ {d n z:Nat} {a:List CK} {e:TypeId} {cs:List Value} (ha:zd7 P d e=some a) (hz:a.length=z) (ih:∀ t cs x ks,zd7 P d t=some ks→DataW.trod enc P w base spare held n t cs=some x→Cks ks cs):∀ (k o:Nat),
  (∀ i,i<k→∃ y,DataW.trod enc P w base spare held n e ((cs.drop ((o+i)*z)).take z)=some y)→Cks (List.replicate k a).flatten ((cs.drop (o*z)).take (k*z))
 | 0,o,_=>by simp [Cks]
 | k+1,o,hy=>by
   obtain ⟨y,h1⟩:=hy 0 (by omega)
   have k1:=ih _ _ _ _ ha h1
   have k2:=ziJ ha hz ih k (o+1) fun i hi=>by
    have:=hy (i+1) (by omega)
    rw [show o+(i+1)=o+1+i by omega] at this
    exact this
   rw [List.replicate_succ,List.flatten_cons,show (k+1)*z=z+k*z by rw [Nat.add_mul];omega,List.take_add,List.drop_drop]
   have e1:o*z+z=(o+1)*z:=by rw [Nat.add_mul];omega
   rw [e1]
   exact k1.append k2
theorem zgj:∀ (d n:Nat) (t:TypeId) (cs:List Value) (x:DataW H×List MemPlace) (ks:List CK),zd7 P d t=some ks→DataW.trod enc P w base spare held n t cs=some x→Cks ks cs
 | 0,n,t,cs,x,ks,h,_=>by cases h
 | d+1,n,t,cs,x,ks,h,hx=>by
   unfold zd7 at h
   split at h
   ·rename_i hu
    cases h
    obtain ⟨b,rfl,_⟩:=DataW.trod_bool hu hx
    exact ⟨⟨b,rfl⟩,trivial⟩
   ·rename_i k hu
    cases h
    obtain ⟨m,rfl,_,hw⟩:=DataW.trod_int hu hx
    exact ⟨⟨m,rfl,hw⟩,trivial⟩
   ·rename_i hu
    cases h
    obtain ⟨s,rfl,_,hs⟩:=DataW.trod_string hu hx
    exact ⟨⟨s,rfl,hs⟩,trivial⟩
   ·rename_i fs hu
    simp only [zbi] at h
    obtain ⟨l,hl,h⟩:=h
    cases hb:Nat.beq (P.cellsOf t) l.length with
    | false=>rw [hb] at h;cases h
    | true=>
      rw [hb] at h
      simp only [zct,zsj] at h
      subst h
      rw [zan] at hb
      have hb:=of_decide_eq_true hb
      obtain ⟨xs,m,rfl,_,hlen,hxl,hf⟩:=DataW.trod_struct hu hx
      have:=zhv (cs:=cs) (fun t cs x ks=>zgj d m t cs x ks) fs.toList 0 l hl fun f hf'=>by
       obtain ⟨i,hi,rfl⟩:=List.mem_iff_getElem.1 hf'
       have hi':i<fs.size:=by simpa using hi
       have h1:=hf i fs[i] (Array.getElem?_eq_getElem hi')
       rw [zge (by omega)] at h1
       exact ⟨_,by simpa using h1⟩
      rwa [List.drop_zero,List.take_of_length_le (by omega)] at this
   ·rename_i N e hu
    simp only [zbi] at h
    obtain ⟨a,ha,h⟩:=h
    cases hb:(Nat.beq (P.cellsOf e) a.length&&Nat.beq (P.cellsOf t) (N*a.length)) with
    | false=>rw [hb] at h;cases h
    | true=>
      rw [hb] at h
      simp only [zct,zsj] at h
      subst h
      simp only [zae,zan,decide_eq_true_eq] at hb
      cases n with
      | zero=>cases hx
      | succ m=>
        unfold DataW.trod at hx
        rw [hu] at hx
        simp only at hx
        split at hx
        ·rename_i hlen
         simp only [zmi] at hx
         obtain ⟨xs,hm,_⟩:=hx
         have hlx:xs.length=N:=by simpa using mapM_some_length hm
         have:=ziJ (cs:=cs) (z:=a.length) ha rfl (fun t cs x ks=>zgj d m t cs x ks) N 0 fun i hi=>by
          have h1:=mapM_some_get hm i i (by simp [hi])
          rw [zge (by omega)] at h1
          rw [Nat.zero_add]
          rw [hb.1] at h1
          exact ⟨_,h1⟩
         rwa [Nat.zero_mul,List.drop_zero,List.take_of_length_le (by omega)] at this
        ·cases hx
   ·cases h
end
theorem zbo {k:IntKind} {ks:List CK} {r:List Value} (h:Cks (.i k::ks) r):∃ n r',r=.int k n::r'∧(Lit.int k n).wf=true∧Cks ks r':=by
 cases r with
 | nil=>exact h.elim
 | cons x r=>
   obtain ⟨⟨n,h1,h2⟩,h3⟩:=h
   exact ⟨n,r,by rw [h1],h2,h3⟩
theorem zkY {n:Int} (w:(Lit.int .u32 n).wf=true):U32 n:=by
 have h4:IntKind.min .u32≤n∧n≤IntKind.max .u32:=by simpa [Lit.wf] using w
 have e1:IntKind.min .u32=0:=by rfl
 have e2:IntKind.max .u32=4294967295:=by rfl
 rw [e1,e2] at h4
 exact ⟨by omega,by omega⟩
theorem zoE {ks:List CK}:∀ (n:Nat) {r:List Value},Cks (List.replicate n (.i .u32)++ks) r→∃ (l:List Int) (r':List Value),l.length=n∧r=l.map (Value.int .u32)++r'∧(∀ x∈l,U32 x)∧Cks ks r'
 | 0,r,h=>⟨[],r,rfl,rfl,by simp,h⟩
 | n+1,r,h=>by
   have h':Cks (.i .u32::(List.replicate n (.i .u32)++ks)) r:=h
   obtain ⟨x,r1,rfl,hw,h1⟩:=zbo h'
   obtain ⟨l,r2,hl,rfl,hu,h2⟩:=zoE n h1
   exact ⟨x::l,r2,by simp [hl],rfl,by
    intro y hy
    rcases List.mem_cons.1 hy with rfl | hy
    ·exact zkY hw
    ·exact hu y hy,h2⟩
theorem zrH {l:List Int} {n:Nat} (hl:l.length=n):nums .u32 n (fun i=>l.getD i 0)=l.map (Value.int .u32):=by
 apply List.ext_getElem?
 intro j
 by_cases hj:j<n
 ·rw [zes _ _ hj,List.getElem?_map,zge (by omega),List.getD_eq_getElem?_getD,zge (by omega)];rfl
 ·rw [List.getElem?_eq_none (by rw [zal];omega),List.getElem?_eq_none (by simp;omega)]
def zoF:List CK:=List.replicate 16 (.i .u32)++[.i .u32,.i .u32,.i .u32,.i .u32,.i .u32,.i .u32,.i .u32,.i .u32,.i .u32,.i .i64]
theorem st_ty {r:List Value} (h:Cks zoF r):∃ s:StM,r=s.row∧(∀ i,U32 (s.r i))∧U32 s.psl∧U32 s.ksp∧U32 s.usp:=by
 obtain ⟨l,r1,hl,rfl,hu,h⟩:=zoE 16 h
 obtain ⟨n1,r1,rfl,w1,h⟩:=zbo h
 obtain ⟨n2,r1,rfl,w2,h⟩:=zbo h
 obtain ⟨n3,r1,rfl,w3,h⟩:=zbo h
 obtain ⟨n4,r1,rfl,w4,h⟩:=zbo h
 obtain ⟨n5,r1,rfl,w5,h⟩:=zbo h
 obtain ⟨n6,r1,rfl,w6,h⟩:=zbo h
 obtain ⟨n7,r1,rfl,w7,h⟩:=zbo h
 obtain ⟨n8,r1,rfl,w8,h⟩:=zbo h
 obtain ⟨n9,r1,rfl,w9,h⟩:=zbo h
 obtain ⟨n10,r1,rfl,w10,h⟩:=zbo h
 cases r1 with
 | cons y r=>exact h.elim
 | nil=>
   refine ⟨⟨fun i=>l.getD i 0,n1,n2,n3,n4,n5,n6,n7,n8,n9,n10⟩,?_,fun i=>?_,zkY w1,zkY w2,zkY w3⟩
   ·unfold StM.row
    rw [zrH hl]
   ·show U32 (l.getD i 0)
    rw [List.getD_eq_getElem?_getD]
    cases hx:l[i]? with
    | none=>exact .zero
    | some x=>exact hu x (zmg hx)
theorem wo_ty (r:List Value) (h:Cks (List.replicate 12 (.i .i64)) r):∃ s,r=Wo.row s∧True:=by
 obtain ⟨n1,r1,rfl,w1,h⟩:=zbo (k:=.i64) (ks:=List.replicate 11 (.i .i64)) h
 obtain ⟨n2,r1,rfl,w2,h⟩:=zbo (k:=.i64) (ks:=List.replicate 10 (.i .i64)) h
 obtain ⟨n3,r1,rfl,w3,h⟩:=zbo (k:=.i64) (ks:=List.replicate 9 (.i .i64)) h
 obtain ⟨n4,r1,rfl,w4,h⟩:=zbo (k:=.i64) (ks:=List.replicate 8 (.i .i64)) h
 obtain ⟨n5,r1,rfl,w5,h⟩:=zbo (k:=.i64) (ks:=List.replicate 7 (.i .i64)) h
 obtain ⟨n6,r1,rfl,w6,h⟩:=zbo (k:=.i64) (ks:=List.replicate 6 (.i .i64)) h
 obtain ⟨n7,r1,rfl,w7,h⟩:=zbo (k:=.i64) (ks:=List.replicate 5 (.i .i64)) h
 obtain ⟨n8,r1,rfl,w8,h⟩:=zbo (k:=.i64) (ks:=List.replicate 4 (.i .i64)) h
 obtain ⟨n9,r1,rfl,w9,h⟩:=zbo (k:=.i64) (ks:=List.replicate 3 (.i .i64)) h
 obtain ⟨n10,r1,rfl,w10,h⟩:=zbo (k:=.i64) (ks:=List.replicate 2 (.i .i64)) h
 obtain ⟨n11,r1,rfl,w11,h⟩:=zbo (k:=.i64) (ks:=List.replicate 1 (.i .i64)) h
 obtain ⟨n12,r1,rfl,w12,h⟩:=zbo (k:=.i64) (ks:=[]) h
 cases r1 with
 | cons y r=>exact h.elim
 | nil=>exact ⟨⟨n1,n2,n3,n4,n5,n6,n7,n8,n9,n10,n11,n12⟩,rfl,trivial⟩
theorem woRow_flat (x:Wo):(Wo.row x).all zaR=true:=rfl
theorem zqT:zd7 Tryd.prog 4 44=some zoF:=by kernel_rfl
theorem open_state {H:Type} {enc:TypeId×Value→H} {W:World} {spare:Nat→Bool} {held:Bool} {v:Value} {dd:DataW H} {p:List MemPlace} (hval:Value.okWide Tryd.prog W .any 0 44 v) (h:DataW.Trod enc Tryd.prog W 0 spare held 44 v dd p):
  ∃ s:StM,v=s.val∧(∀ i,U32 (s.r i))∧U32 s.psl∧U32 s.ksp∧U32 s.usp:=by
 unfold Value.okWide at hval
 rw [Tryd.underlying44] at hval
 obtain ⟨cs,rfl,_⟩:=hval
 obtain ⟨fuel,hf⟩:=h
 have hk:=zgj 4 _ _ _ _ _ zqT hf
 obtain ⟨s,e,q⟩:=st_ty hk
 refine ⟨s,?_,q⟩
 have e':cs.toList=s.row:=e
 unfold StM.val
 rw [← e']
theorem zpe (C R:List Value):okP ((stL C).new (.cells R 0)).next (runF Tryd.prog Lk0 2000 6 [] ⟨((stL C).new (.cells R 0)).mem,((stL C).new (.cells R 0)).next,((stL C).new (.cells R 0)).next,[]⟩)=true:=by kernel_rfl
theorem aliveU [Sym] (C R:List Value):∃ N,((stL C).new (.cells R 0)).next≤N∧cc 6 [] ((stL C).new (.cells R 0))=some (.bool true,((stL C).new (.cells R 0)).adv N):=
 zoc (st:=(stL C).new (.cells R 0)) (f:=6) (args:=[]) (n:=2000) zak (by kernel_rfl) (by kernel_rfl) (by kernel_rfl) (zpe C R)
theorem dpathUndo_ok [Sym] {s:StM} (hr:∀ i,U32 (s.r i)) (hp:U32 s.psl) (hk:U32 s.ksp) (hu:U32 s.usp) {l:List Wo} {av:Value} (t:Tv 1 l.length av):∃ s',cc 5 [s.val,av] (stL (l.flatMap Wo.row))=some (.bool true,s'):=
 zrG (G:=1+1) (zlr _) (tbL _) (zlr _) (aliveU _ _) hr hp hk hu (t.rg ziI (stL_0 _) (by show 1<1+1;omega)) (Tv.low t)
end Go.Proofs.YtlpigjmjgclgiaaDoorE
