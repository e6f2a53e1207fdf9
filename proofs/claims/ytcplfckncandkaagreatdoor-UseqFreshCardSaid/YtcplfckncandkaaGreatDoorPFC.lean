/- Parts of the proof of UseqFresh, packed by a program: an evaluator over the given code, functions as plain texts, their laws. -/
import Derived.Shelf.Small.Strs
import Derived.Shelf.Strings.Search1
import Derived.Shelf.Strings.Search2
import Derived.Shelf.Strings.Search3
import Derived.Shelf.Strings.Count
import Derived.Shelf.Pu.ToError
import Derived.Shelf.Pu.ToErrorRange
import Derived.Ground.MpProg
import Derived.Shelf.Strings.Fields
import Derived.Shelf.Strconv.Itoa3
import Derived.Test.YtcplfckncandkaaGreatDoorProg
import Derived.KernelRfl
import Derived.Test.YtcplfckncandkaaGreatDoorPFB
set_option linter.unusedVariables false
set_option linter.unusedSimpArgs false
namespace Go.E
open Go
structure Mod (S:List Nat) (a b:SS):Prop where
 next:a.next≤b.next
 lim:b.lim=a.lim
 keep:∀ j,j<a.next→j∉S→b.mem.get j=a.mem.get j
section
variable {S T : List Nat} {a b c : SS} {i n : Nat}
theorem Mod.refl (a:SS):Mod S a a:=⟨zlr _,rfl,fun _ _ _=>rfl⟩
theorem Mod.ofExt (h:Ext a b):Mod S a b:=⟨h.next,h.lim,fun j hj _=>h.keep j hj⟩
theorem Mod.toExt (h:Mod [] a b):Ext a b:=⟨h.next,h.lim,fun j hj=>h.keep j hj (by simp)⟩
theorem Mod.trans (h:Mod S a b) (k:Mod T b c) (hT:∀ j,j∈T→j<a.next→j∈S):Mod S a c:=
 ⟨zlt h.next k.next,k.lim.trans h.lim,fun j hj hS=>(k.keep j (zll hj h.next) (fun hm=>hS (hT j hm hj))).trans (h.keep j hj hS)⟩
theorem Mod.then (h:Mod S a b) (k:Mod S b c):Mod S a c:=h.trans k fun _ hj _=>hj
theorem Mod.thenE (h:Mod S a b) (k:Mod [] b c):Mod S a c:=h.trans k fun _ hj _=>by cases hj
theorem Mod.thenX (h:Mod S a b) (k:Ext b c):Mod S a c:=h.thenE (.ofExt k)
theorem Mod.thenI (h:Mod S a b) (k:Mod [i] b c) (hi:a.next≤i∨i∈S):Mod S a c:=h.trans k fun j hj hlt=>by
 have:j=i:=by simpa using hj
 subst this
 rcases hi with hi | hi
 ·omega
 ·exact hi
theorem Mod.mono (h:Mod S a b) (hS:∀ j,j∈S→j∈T):Mod T a b:=⟨h.next,h.lim,fun j hj hT=>h.keep j hj fun hm=>hT (hS j hm)⟩
theorem Mod.fresh (h:Mod S a b) (hS:∀ j,j∈S→a.next≤j):Ext a b:=⟨h.next,h.lim,fun j hj=>h.keep j hj fun hm=>by have:=hS j hm;omega⟩
theorem Mod.ll (h:Mod S a b) (hl:a.lim≤a.next):b.lim≤b.next:=by rw [h.lim];exact zlt hl h.next
theorem Ext.ll (h:Ext a b) (hl:a.lim≤a.next):b.lim≤b.next:=by rw [h.lim];exact zlt hl h.next
theorem Ext.advR (a:SS) (hn:a.next≤n):Ext a (a.adv n):=(Ext.refl a).adv hn
theorem Mod.get {x:Option AObj} (h:Mod S a b) (hi:i<a.next) (hS:i∉S) (hx:a.mem.get i=x):b.mem.get i=x:=(h.keep i hi hS).trans hx
theorem Rd.mod {v:Value} {c:List Value} {z n:Nat} (h:Rd a v c z n) (m:Mod S a b) (hv:∀ j k l q,v=.slice (some ⟨j,k,none⟩) l q→j∉S):Rd b v c z n:=by
 obtain ⟨h1,h2⟩:=h
 refine ⟨h1,h2.imp id ?_⟩
 rintro ⟨i,cap,e,⟨z',hm⟩,hi⟩
 exact ⟨i,cap,e,⟨z',m.get hi (hv i 0 n cap e) hm⟩,zll hi m.next⟩
theorem Own.mod {B:Nat} {v:Value} {c:List Value} {z n:Nat} (h:Own B a v c z n) (m:Mod S a b) (hv:∀ j k l q,v=.slice (some ⟨j,k,none⟩) l q→j∉S):Own B b v c z n:=by
 obtain ⟨h1,h2⟩:=h
 refine ⟨h1,h2.imp id ?_⟩
 rintro ⟨i,e,h0,hm,hb,hi⟩
 exact ⟨i,e,h0,m.get hi (hv i 0 n n e) hm,hb,zll hi m.next⟩
end
def At (st:SS) (i:Nat) (row:List Value):Prop:=st.mem.get i=some (.cells row 0)∧i<st.next∧st.lim≤i
section
variable {S : List Nat} {st st' : SS} {i k n : Nat} {row row' vs : List Value}
theorem At.mem (h:At st i row):st.mem.get i=some (.cells row 0):=h.1
theorem At.lt (h:At st i row):i<st.next:=h.2.1
theorem At.mod (h:At st i row) (m:Mod S st st') (hi:i∉S):At st' i row:=⟨m.get h.lt hi h.1,zll h.lt m.next,by rw [m.lim];exact h.2.2⟩
theorem At.ext (h:At st i row) (m:Ext st st'):At st' i row:=h.mod (S:=[]) (.ofExt m) (by simp)
theorem At.adv (h:At st i row) (hn:st.next≤n):At (st.adv n) i row:=h.ext (.advR st hn)
theorem At.ld (h:At st i row):st.ld i k=row[k]?:=SS.ld_cells h.1
theorem At.rd (h:At st i row):st.rd i k=row[k]?:=SS.rd_cells h.1
theorem At.ldN (h:At st i row) (hn:row.length=n):st.ldN i 0 n=some (.agg row.toArray):=by rw [SS.ldN_cells h.1,zf1 hn];rfl
theorem At.rdN (h:At st i row) (hn:row.length=n):st.rdN i 0 n=some (.agg row.toArray):=by rw [SS.rdN_cells h.1,zf1 hn];rfl
theorem At.ldC (h:At st i row) {d:List Value} (hd:cut row k n=some d):st.ldN i k n=some (.agg d.toArray):=by rw [SS.ldN_cells h.1,hd];rfl
theorem At.sto (h:At st i row) (h1:vs.all one=true) (hs:zcK row k vs=some row'):∃ st',st.st i k vs=some st'∧At st' i row'∧Mod [i] st st'∧st'.next=st.next:=
 ⟨_,SS.st_cells h.1 h.2.2 h1 hs,⟨by simp,h.2.1,h.2.2⟩,⟨zlr _,rfl,fun j hj hS=>SS.set_old (by simpa using hS)⟩,rfl⟩
theorem At.stV (h:At st i row) {v:Value} (hv:v.cells.toList=vs) (hn:vs.length=n) (h1:vs.all one=true) (hs:zcK row k vs=some row'):∃ st',st.stV i k n v=some st'∧At st' i row'∧Mod [i] st st'∧st'.next=st.next:=by
 obtain ⟨st',a,b,c,d⟩:=h.sto h1 hs
 refine ⟨st',?_,b,c,d⟩
 unfold SS.stV
 have e:v.cells.size=n:=by rw [← hn,← hv];simp
 rw [e,hv,a]
 simp
theorem At.new (hl:st.lim≤st.next) (row:List Value):At (st.new (.cells row 0)) st.next row:=⟨by simp,by simp,hl⟩
theorem Mod.new (ob:AObj):Mod [] st (st.new ob):=.ofExt ((Ext.refl st).new ob)
theorem zaV (hl:st.lim≤st.next) {r:List Value} {v:Value} (hv:v.cells.toList=row) (hn:row.length=n) (h1:row.all one=true) (hr:r.length=n):∃ st',(st.new (.cells r 0)).stV st.next 0 n v=some st'∧At st' st.next row∧Ext st st'∧st'.next=st.next+1:=by
 obtain ⟨st',a,b,c,d⟩:=(At.new hl r).stV (k:=0) hv hn h1 (row':=row) (by rw [zbu (by omega)];simp [hn,hr])
 refine ⟨st',a,b,?_,d⟩
 exact (((Mod.new (.cells r 0)).mono (T:=[st.next]) (by simp)).then c).fresh (by simp)
theorem zkI (hl:st.lim≤st.next) {r:List Value} (h1:row.all one=true) (hr:r.length=row.length):∃ st',(st.new (.cells r 0)).st st.next 0 row=some st'∧At st' st.next row∧Ext st st'∧st'.next=st.next+1:=by
 obtain ⟨st',a,b,c,d⟩:=(At.new hl r).sto (k:=0) (vs:=row) (row':=row) h1 (by rw [zbu (by omega)];simp [hr])
 exact ⟨st',a,b,(((Mod.new (.cells r 0)).mono (T:=[st.next]) (by simp)).then c).fresh (by simp),d⟩
end
theorem zaG (row:List Value):(Value.agg row.toArray).cells.toList=row:=by simp [Value.cells]
theorem Own.modLt {S:List Nat} {a b:SS} {B:Nat} {v:Value} {c:List Value} {z n:Nat} (h:Own B a v c z n) (m:Mod S a b) (hS:∀ j,j∈S→j<B):Own B b v c z n:=by
 obtain ⟨h1,h2⟩:=h
 refine ⟨h1,h2.imp id ?_⟩
 rintro ⟨i,e,h0,hm,hb,hi⟩
 exact ⟨i,e,h0,m.get hi (fun hx=>by have:=hS i hx;omega) hm,hb,zll hi m.next⟩
theorem Rd.row1 {st:SS} {row:List Value} {z:Nat} (h:row.length=z):Rd (st.new (.cells row z)) (.slice (some ⟨st.next,0,none⟩) 1 1) row z 1:=
 ⟨by rw [h,Nat.one_mul],.inr ⟨st.next,1,rfl,⟨z,SS.new_get⟩,by simp⟩⟩
theorem Own.push {b:Nat} {st:SS} {v:Value} {c row:List Value} {z n bt:Nat} (h:Own b st v c z n) (hb:b≤st.next) (hl:st.lim≤b) (hr:row.length=z) (hz:0<z) (h1:row.all one=true) (hs:(n+2)*bt≤2^44) (hn:n+1≤2^44):
  ∃ v' st',(st.new (.cells row z)).app z bt v (.slice (some ⟨st.next,0,none⟩) 1 1)=some (v',st')∧Own b st' v' (c++row) z (n+1)∧(∀ st0,st0.next≤b→Ext st0 st→Ext st0 st')∧st'.lim=st.lim∧st.next≤st'.next∧
   ∀ j,j<st.next→(∀ q,v≠.slice (some ⟨j,0,none⟩) q q)→st'.mem.get j=st.mem.get j:=by
 obtain ⟨v',st',g1,g2,g3,g4,g5,g6⟩:=(h.ext ((Ext.refl st).new (.cells row z))).app (Rd.row1 (st:=st) hr) (zlt hb (Nat.le_succ _)) hl hz h1 (bt:=bt) (by simpa [Nat.add_assoc] using hs) hn
 exact ⟨v',st',g1,g2,fun st0 h0 he=>g5 st0 h0 (he.new _),g3,zlt (Nat.le_succ _) g4,fun j hj hv=>by rw [g6 j (by simp;omega) hv,SS.new_old (by omega)]⟩
theorem Own.pushM {b:Nat} {st:SS} {v:Value} {c row:List Value} {z n bt:Nat} (h:Own b st v c z n) (hb:b≤st.next) (hl:st.lim≤b) (hr:row.length=z) (hz:0<z) (h1:row.all one=true) (hs:(n+2)*bt≤2^44) (hn:n+1≤2^44):
  ∃ v' st',(st.new (.cells row z)).app z bt v (.slice (some ⟨st.next,0,none⟩) 1 1)=some (v',st')∧Own b st' v' (c++row) z (n+1)∧st'.lim=st.lim∧st.next≤st'.next∧(∀ j,j<b→st'.mem.get j=st.mem.get j):=by
 obtain ⟨v',st',g1,g2,g3,g4,g5,g6⟩:=h.push hb hl hr hz h1 hs hn
 refine ⟨v',st',g1,g2,g4,g5,fun j hj=>g6 j (by omega) fun q e=>?_⟩
 obtain ⟨_,⟨rfl,_⟩ | ⟨i,rfl,_,_,hbi,_⟩⟩:=h
 ·cases e
 ·cases e;omega
structure Keep (B:Nat) (S:List Nat) (a b:SS):Prop where
 next:a.next≤b.next
 lim:b.lim=a.lim
 keep:∀ j,j<B→j∉S→b.mem.get j=a.mem.get j
section
variable {S : List Nat} {a b c : SS} {B i : Nat}
theorem Keep.refl (a:SS):Keep B S a a:=⟨zlr _,rfl,fun _ _ _=>rfl⟩
theorem Keep.then (h:Keep B S a b) (k:Keep B S b c):Keep B S a c:=⟨zlt h.next k.next,k.lim.trans h.lim,fun j hj hS=>(k.keep j hj hS).trans (h.keep j hj hS)⟩
theorem Mod.keepB (h:Mod S a b) (hB:B≤a.next):Keep B S a b:=⟨h.next,h.lim,fun j hj hS=>h.keep j (by omega) hS⟩
theorem Ext.keepB (h:Ext a b) (hB:B≤a.next):Keep B S a b:=⟨h.next,h.lim,fun j hj _=>h.keep j (by omega)⟩
theorem Keep.mod (h:Keep B S a b) (hB:a.next≤B):Mod S a b:=⟨h.next,h.lim,fun j hj hS=>h.keep j (by omega) hS⟩
theorem Keep.mono {B':Nat} {T:List Nat} (h:Keep B S a b) (hB:B'≤B) (hS:∀ j,j∈S→j<B'→j∈T):Keep B' T a b:=⟨h.next,h.lim,fun j hj hT=>h.keep j (by omega) fun hm=>hT (hS j hm hj)⟩
theorem Keep.thenX (h:Keep B S a b) (k:Ext b c) (hB:B≤b.next):Keep B S a c:=h.then (k.keepB hB)
theorem Keep.thenM (h:Keep B S a b) (k:Mod S b c) (hB:B≤b.next):Keep B S a c:=h.then (k.keepB hB)
theorem Keep.thenI (h:Keep B S a b) (k:Mod [i] b c) (hB:B≤b.next) (hi:B≤i∨i∈S):Keep B S a c:=h.then ⟨k.next,k.lim,fun j hj hS=>k.keep j (by omega) fun hm=>by
 have:j=i:=by simpa using hm
 subst this
 rcases hi with hi | hi
 ·omega
 ·exact hS hi⟩
theorem Keep.ll (h:Keep B S a b) (hl:a.lim≤a.next):b.lim≤b.next:=by rw [h.lim];exact zlt hl h.next
theorem At.keepB {row:List Value} (h:At a i row) (k:Keep B S a b) (hB:i<B) (hi:i∉S):At b i row:=⟨(k.keep i hB hi).trans h.1,zll h.2.1 k.next,by rw [k.lim];exact h.2.2⟩
theorem Own.cell {v:Value} {c:List Value} {z n:Nat} (h:Own B a v c z n):v.cells.toList=[v]∧one v=true:=by
 obtain ⟨_,⟨rfl,_⟩ | ⟨i,rfl,_⟩⟩:=h<;>exact ⟨rfl,rfl⟩
theorem Own.pushK {b:Nat} {st:SS} {v:Value} {c row:List Value} {z n bt:Nat} (h:Own b st v c z n) (hb:b≤st.next) (hl:st.lim≤b) (hr:row.length=z) (hz:0<z) (h1:row.all one=true) (hs:(n+2)*bt≤2^44) (hn:n+1≤2^44):
  ∃ v' st',(st.new (.cells row z)).app z bt v (.slice (some ⟨st.next,0,none⟩) 1 1)=some (v',st')∧Own b st' v' (c++row) z (n+1)∧∀ S,Keep b S st st':=by
 obtain ⟨v',st',g1,g2,g3,g4,g5⟩:=h.pushM hb hl hr hz h1 hs hn
 exact ⟨v',st',g1,g2,fun S=>⟨g4,g3,fun j hj _=>g5 j hj⟩⟩
end
theorem Own.pushN {b:Nat} {st:SS} {v:Value} {c row:List Value} {z n bt:Nat} (h:Own b st v c z n) (hb:b≤st.next) (hl:st.lim≤b) (hr:row.length=z) (hz:0<z) (h1:row.all one=true) (hs:(n+2)*bt≤2^44) (hn:n+1≤2^44):
  ∃ k st',(st.new (.cells row z)).app z bt v (.slice (some ⟨st.next,0,none⟩) 1 1)=some (.slice (some ⟨k,0,none⟩) (n+1) (n+1),st')∧st.next≤k∧Own b st' (.slice (some ⟨k,0,none⟩) (n+1) (n+1)) (c++row) z (n+1)∧st'.lim=st.lim∧st.next≤st'.next∧
   ∀ j,j<st.next→(∀ q,v≠.slice (some ⟨j,0,none⟩) q q)→st'.mem.get j=st.mem.get j:=by
 obtain ⟨v',st',g1,g2,g3,g4,g5,g6⟩:=h.push hb hl hr hz h1 hs hn
 have key:∃ k,v'=.slice (some ⟨k,0,none⟩) (n+1) (n+1)∧st.next≤k:=by
  have hx:=Rd.row1 (st:=st) hr
  obtain ⟨e1,e2⟩:=hx.first
  unfold SS.app at g1
  rw [e1] at g1
  simp only [zob] at g1
  have hm0:Nat.beq 1 0=false:=rfl
  obtain ⟨h2,h3⟩:=h
  rcases h3 with ⟨rfl,rfl⟩ | ⟨i,rfl,h0,hmem,hbi,hi⟩
  ·have q:(Nat.ble ((1+1)*bt) (2^44)&&Nat.ble 1 (2^44))=true:=by
    simp only [zae,Nat.ble_eq]
    simp only [Nat.zero_add] at hs
    exact ⟨hs,by omega⟩
   simp only [hm0,zcf,q,zct,e2,zob] at g1
   cases g1
   exact ⟨_,rfl,by simp⟩
  ·have q:(Nat.ble ((n+1+1)*bt) (2^44)&&Nat.ble (n+1) (2^44)&&Nat.ble (st.new (.cells row z)).lim i)=true:=by
    simp only [zae,Nat.ble_eq]
    exact ⟨⟨hs,hn⟩,by simp;omega⟩
   have q2:(Nat.beq z z&&(Nat.blt n (n+1)||Nat.ble (0+n*z) c.length))=true:=by
    have a:Nat.beq z z=true:=by rw [zar];simp
    have b':Nat.blt n (n+1)=true:=by rw [Nat.blt_eq];omega
    rw [a,b'];rfl
   have hmem':(st.new (.cells row z)).mem.get i=some (.cells c z):=by rw [SS.new_old (by omega)];exact hmem
   simp only [hm0,zcf,q,zct,hmem',zob,q2,zf1 h2,e2,h1] at g1
   cases g1
   exact ⟨_,rfl,by simp⟩
 obtain ⟨k,rfl,hk⟩:=key
 exact ⟨k,st',g1,hk,g2,g4,g5,g6⟩
theorem zcx {s:SS} {j0 j1 n:Nat} {row0 row1:List Value} (h0:At s j0 row0) (l0:row0.length=n) (h1:At s j1 row1) (l1:row1.length=n) (ho:row1.all one=true):
  ∃ s',s.ldN j1 0 n=some (.agg row1.toArray)∧s.stV j0 0 n (.agg row1.toArray)=some s'∧s'.rdN j0 0 n=some (.agg row1.toArray)∧Mod [j0] s s'∧At s' j0 row1:=by
 obtain ⟨s',e,a,m,_⟩:=h0.stV (k:=0) (zaG row1) l1 ho (row':=row1) (by rw [zbu (by omega)];simp [l0,l1])
 exact ⟨s',h1.ldN l1,e,a.rdN l1,m,a⟩
def rowsF {α:Type} (f:α→List Value) (l:List α):List Value:=l.flatMap f
section
variable {α : Type} {f : α → List Value} {z : Nat}
theorem zcj (a b:List α):rowsF f (a++b)=rowsF f a++rowsF f b:=by simp [rowsF]
theorem zbX (a:α) (b:List α):rowsF f (a::b)=f a++rowsF f b:=by simp [rowsF]
theorem zdz (a:α):rowsF f [a]=f a:=by simp [rowsF]
theorem zh6 (hz:∀ x,(f x).length=z) (l:List α):(rowsF f l).length=l.length*z:=by
 induction l with
 | nil=>simp [rowsF]
 | cons a l ih=>rw [zbX,List.length_append,ih,hz,List.length_cons,Nat.add_mul];omega
theorem zaU (hz:∀ x,(f x).length=z) (l:List α) (i:Nat) (x:α) (h:l[i]?=some x):((rowsF f l).drop (i*z)).take z=f x:=by
 induction l generalizing i with
 | nil=>cases h
 | cons a l ih=>
   rw [zbX]
   cases i with
   | zero=>
     have:a=x:=by simpa using h
     subst this
     rw [Nat.zero_mul,List.drop_zero,List.take_append_of_le_length (by rw [hz];omega),List.take_of_length_le (by rw [hz];omega)]
   | succ i=>
     have e:(i+1)*z=(f a).length+i*z:=by rw [hz,Nat.add_mul];omega
     rw [e,List.drop_append,List.drop_of_length_le (by omega),List.nil_append,Nat.add_sub_cancel_left]
     exact ih i (by simpa using h)
end
theorem wrapI {i k:Nat} (h:i≤1099511627776) (hk:k≤1099511627776):IntKind.wrap .i64 ((i:Int)+(k:Int))=((i+k:Nat):Int):=by rw [wrap64 (by omega) (by omega)];omega
theorem zaX {i:Nat} (h:i≤1099511627776):IntKind.wrap .i64 ((i:Int)+1)=((i+1:Nat):Int):=wrapI h (k:=1) (by omega)
end Go.E
namespace Go.E
open Go
def Rg (st:SS) (v:Value) (c:List Value) (z n:Nat):Prop:=
 c.length=n*z∧((v=.slice none 0 0∧n=0)∨∃ i cap C,v=.slice (some ⟨i,0,none⟩) n cap∧n≤cap∧i<st.next∧C.take (n*z)=c∧((∃ z',(z'=z∨z'=0)∧st.mem.get i=some (.cells C z'))∨st.mem.get i=some (.table C)))
section
variable {S : List Nat} {st st' : SS} {v : Value} {c : List Value} {z n B : Nat}
theorem Rg.len (h:Rg st v c z n):lenV v=some (.int .i64 (n:Int)):=by
 obtain ⟨_,⟨rfl,rfl⟩ | ⟨i,cap,C,rfl,_⟩⟩:=h<;>rfl
theorem Rg.lenI (h:Rg st v c z n):(lenV v).bind (asI .i64)=some (n:Int):=by rw [h.len];rfl
theorem Rg.sl (h:Rg st v c z n):sliceLen v=some (n:Int):=by
 obtain ⟨_,⟨rfl,rfl⟩ | ⟨i,cap,C,rfl,_⟩⟩:=h<;>rfl
theorem Rg.cell (h:Rg st v c z n):v.cells.toList=[v]∧one v=true:=by
 obtain ⟨_,⟨rfl,rfl⟩ | ⟨i,cap,C,rfl,_⟩⟩:=h<;>exact ⟨rfl,rfl⟩
theorem Own.rg (h:Own B st v c z n):Rg st v c z n:=by
 obtain ⟨h1,h2⟩:=h
 refine ⟨h1,h2.imp id ?_⟩
 rintro ⟨i,e,h0,hm,hb,hi⟩
 exact ⟨i,n,c,e,zlr _,hi,by rw [← h1,List.take_length],.inl ⟨z,.inl rfl,hm⟩⟩
theorem Rg.keep (h:Rg st v c z n) (hn:st.next≤st'.next) (hk:∀ i l cap,v=.slice (some ⟨i,0,none⟩) l cap→i<st.next→st'.mem.get i=st.mem.get i):Rg st' v c z n:=by
 obtain ⟨h1,h2⟩:=h
 refine ⟨h1,h2.imp id ?_⟩
 rintro ⟨i,cap,C,e,hc,hi,ht,hm⟩
 rw [← hk i _ _ e hi] at hm
 exact ⟨i,cap,C,e,hc,zll hi hn,ht,hm⟩
theorem Rg.ext (h:Rg st v c z n) (he:Ext st st'):Rg st' v c z n:=h.keep he.next fun i l cap e hi=>he.keep i hi
theorem Rg.mod (h:Rg st v c z n) (m:Mod S st st') (hv:∀ i l cap,v=.slice (some ⟨i,0,none⟩) l cap→i∉S):Rg st' v c z n:=h.keep m.next fun i l cap e hi=>m.keep i hi (hv i l cap e)
theorem zvO {C c:List Value} {n k z:Nat} (h:C.take n=c) (hk:k+z≤c.length):cut C k z=some ((c.drop k).take z):=by
 subst h
 rw [List.length_take] at hk
 refine zkE ?_ ?_
 ·rw [List.drop_take,List.take_take,Nat.min_eq_left (by omega)]
 ·simp;omega
theorem Rg.load (h:Rg st v c z n) {j:Int} (h0:0≤j) (h1:j<n) {row:List Value} (hr:(c.drop (j.toNat*z)).take z=row) (hz:row.length=z):
  ∃ p,zau v j z=some p∧st.ldN p.1 p.2 z=some (.agg row.toArray)∧∀ k x,row[k]?=some x→st.ld p.1 (p.2+k)=some x:=by
 obtain ⟨hc,⟨rfl,rfl⟩ | ⟨i,cap,C,rfl,hcap,hi,ht,hm⟩⟩:=h
 ·omega
 have hb:j.toNat*z+z≤c.length:=by
  have h2:j.toNat+1≤n:=by omega
  have h3:=Nat.mul_le_mul_right z h2
  rw [Nat.add_mul,Nat.one_mul] at h3
  omega
 have e0:zau (.slice (some ⟨i,0,none⟩) n cap) j z=some (i,0+j.toNat*z):=by
  unfold zau
  simp only [zdt h0,zdt h1,Bool.and_self,zct]
 have hcut:=zvO (k:=j.toNat*z) (z:=z) ht hb
 rw [hr] at hcut
 have hget:∀ k x,row[k]?=some x→C[j.toNat*z+k]?=some x:=fun k x hx=>by
  rw [← hr,List.getElem?_take] at hx
  split at hx
  ·rw [List.getElem?_drop,← ht,List.getElem?_take] at hx
   split at hx
   ·exact hx
   ·cases hx
  ·cases hx
 refine ⟨_,e0,?_,fun k x hx=>?_⟩
 ·simp only [Nat.zero_add]
  rcases hm with ⟨z',_,hm⟩ | hm
  ·rw [SS.ldN_cells hm,hcut];rfl
  ·rw [SS.ldN_table hm,hcut];rfl
 ·simp only [Nat.zero_add]
  rcases hm with ⟨z',_,hm⟩ | hm
  ·rw [SS.ld_cells hm];exact hget k x hx
  ·rw [SS.ld_table hm];exact hget k x hx
theorem Rg.resl (h:Rg st v c z n) {m:Nat} (hm:m≤n):∃ v',st.resl v z 0 (m:Int)=some v'∧Rg st v' (c.take (m*z)) z m:=by
 obtain ⟨hc,⟨rfl,rfl⟩ | ⟨i,cap,C,rfl,hcap,hi,ht,hmm⟩⟩:=h
 ·have:m=0:=by omega
  subst this
  exact ⟨.slice none 0 0,rfl,by simp,.inl ⟨rfl,rfl⟩⟩
 have h1:decide ((m:Int)≤(cap:Int))=true:=zdt (by omega)
 have h2:decide ((0:Int)≤(m:Int))=true:=zdt (by omega)
 have h4:cond (Nat.beq cap 0) 0 (0+0*z)=0:=by cases Nat.beq cap 0<;>simp
 have hle:m*z≤n*z:=Nat.mul_le_mul_right z hm
 have hres:st.resl (.slice (some ⟨i,0,none⟩) n cap) z 0 (m:Int)=some (.slice (some ⟨i,0,none⟩) m cap):=by
  unfold SS.resl
  rcases hmm with ⟨z',hz',hmm⟩ | hmm
  ·have hq:(Nat.beq z' z||Nat.beq z' 0)=true:=by
    simp only [Bool.or_eq_true,zar,decide_eq_true_eq];exact hz'
   simp only [hmm,zob,hq,h1,h2,zct,Int.toNat_zero,h4,Int.toNat_natCast,Nat.sub_zero,Int.le_refl,decide_true,Bool.and_self]
  ·simp only [hmm,zob,h1,h2,zct,Int.toNat_zero,h4,Int.toNat_natCast,Nat.sub_zero,Int.le_refl,decide_true,Bool.and_self]
 exact ⟨_,hres,by rw [List.length_take];omega,.inr ⟨i,cap,C,rfl,by omega,hi,by rw [← ht,List.take_take,Nat.min_eq_left hle],hmm⟩⟩
theorem Tv.rg {α:Type} {f:α→List Value} {l:List α} {id:Nat} (hz:∀ x,(f x).length=z) (h:Tv id l.length v) (hm:st.mem.get id=some (.table (l.flatMap f))) (hi:id<st.next):Rg st v (rowsF f l) z l.length:=by
 have e:=zh6 (f:=f) (z:=z) hz l
 refine ⟨e,h.imp (fun h=>h) fun ⟨cap,h1,h2,_⟩=>⟨_,cap,l.flatMap f,h1,h2,hi,?_,.inr hm⟩⟩
 have e':(l.flatMap f).length=l.length*z:=e
 rw [← e',List.take_length];rfl
theorem zsH {α:Type} {f:α→List Value} (hz:∀ x,(f x).length=z) (l:List α) (m:Nat):(rowsF f l).take (m*z)=rowsF f (l.take m):=by
 induction l generalizing m with
 | nil=>simp [rowsF]
 | cons a l ih=>
   cases m with
   | zero=>simp [rowsF]
   | succ m=>
     have e:(m+1)*z=(f a).length+m*z:=by rw [hz,Nat.add_mul];omega
     rw [zbX,List.take_succ_cons,zbX,e,List.take_append,List.take_of_length_le (by omega),Nat.add_sub_cancel_left,ih]
end
theorem zrZ {row:List Value} {k:Nat} (x:Value) (h:k<row.length):zcK row k [x]=some (row.set k x):=by
 rw [zbu (by simp;omega),List.set_eq_take_append_cons_drop]
 rw [if_pos h];rfl
theorem At.set1 {st:SS} {i k:Nat} {row:List Value} (h:At st i row) {x:Value} (hk:k<row.length) (h1:one x=true):∃ st',st.st i k [x]=some st'∧At st' i (row.set k x)∧Mod [i] st st'∧st'.next=st.next:=
 h.sto (by simp [h1]) (zrZ x hk)
theorem At.set1V {st:SS} {i k:Nat} {row:List Value} (h:At st i row) {x:Value} (hc:x.cells.toList=[x]) (hk:k<row.length) (h1:one x=true):∃ st',st.stV i k 1 x=some st'∧At st' i (row.set k x)∧Mod [i] st st'∧st'.next=st.next:=
 h.stV hc rfl (by simp [h1]) (zrZ x hk)
end Go.E
namespace Go.Proofs
open Go.Shelf
def Tryz.lays137_ren:Go.Shelf.Ren:=⟨fun | 137=>70 | 217=>94 | 266=>109 | n=>n,fun | 9=>9 | 5=>5 | 3=>3 | n=>n,fun | n=>n⟩
theorem Tryz.lays137:Go.Proofs.Lays.n137 Tryz.prog Tryz.lays137_ren:={
 mixed:=by kernel_rfl
 f137:=Tryz.func70.trans (congrArg some (by kernel_rfl))
 f217:=Tryz.func94.trans (congrArg some (by kernel_rfl))
 f266:=Tryz.func109.trans (congrArg some (by kernel_rfl))
 t3:=Tryz.underlying3
 a3:=Tryz.isAgg3
 z3:=Tryz.sizeOf3
 v3:=Tryz.zeroValue3
 t5:=Tryz.underlying5
 a5:=Tryz.isAgg5
 z5:=Tryz.sizeOf5
 v5:=Tryz.zeroValue5
 t9:=Tryz.underlying9
 a9:=Tryz.isAgg9
 z9:=Tryz.sizeOf9
 v9:=Tryz.zeroValue9 }
def Tryz.lays217_ren:Go.Shelf.Ren:=⟨fun | 217=>94 | 266=>109 | n=>n,fun | 9=>9 | 5=>5 | 3=>3 | n=>n,fun | n=>n⟩
theorem Tryz.lays217:Go.Proofs.Lays.n217 Tryz.prog Tryz.lays217_ren:={
 mixed:=by kernel_rfl
 f217:=Tryz.func94.trans (congrArg some (by kernel_rfl))
 f266:=Tryz.func109.trans (congrArg some (by kernel_rfl))
 t3:=Tryz.underlying3
 a3:=Tryz.isAgg3
 z3:=Tryz.sizeOf3
 v3:=Tryz.zeroValue3
 t5:=Tryz.underlying5
 a5:=Tryz.isAgg5
 z5:=Tryz.sizeOf5
 v5:=Tryz.zeroValue5
 t9:=Tryz.underlying9
 a9:=Tryz.isAgg9
 z9:=Tryz.sizeOf9
 v9:=Tryz.zeroValue9 }
def Tryz.lays143_ren:Go.Shelf.Ren:=⟨fun | 143=>91 | 219=>105 | 217=>94 | 225=>114 | 224=>115 | 267=>116 | 266=>109 | 314=>127 | n=>n,fun | 9=>9 | 3=>3 | 4=>4 | 5=>5 | 46=>113 | 146=>194 | 51=>193 | n=>n,fun | 1=>1 | n=>n⟩
theorem Tryz.lays143:Go.Proofs.Lays.n143 Tryz.prog Tryz.lays143_ren:={
 mixed:=by kernel_rfl
 f143:=Tryz.func91.trans (congrArg some (by kernel_rfl))
 f217:=Tryz.func94.trans (congrArg some (by kernel_rfl))
 f219:=Tryz.func105.trans (congrArg some (by kernel_rfl))
 f224:=Tryz.func115.trans (congrArg some (by kernel_rfl))
 f225:=Tryz.func114.trans (congrArg some (by kernel_rfl))
 f266:=Tryz.func109.trans (congrArg some (by kernel_rfl))
 f267:=Tryz.func116.trans (congrArg some (by kernel_rfl))
 f314:=Tryz.func127.trans (congrArg some (by kernel_rfl))
 t3:=Tryz.underlying3
 a3:=Tryz.isAgg3
 z3:=Tryz.sizeOf3
 v3:=Tryz.zeroValue3
 t4:=Tryz.underlying4
 a4:=Tryz.isAgg4
 z4:=Tryz.sizeOf4
 v4:=Tryz.zeroValue4
 t5:=Tryz.underlying5
 a5:=Tryz.isAgg5
 z5:=Tryz.sizeOf5
 v5:=Tryz.zeroValue5
 t9:=Tryz.underlying9
 a9:=Tryz.isAgg9
 z9:=Tryz.sizeOf9
 v9:=Tryz.zeroValue9
 t46:=Tryz.underlying113
 a46:=Tryz.isAgg113
 z46:=Tryz.sizeOf113
 v46:=Tryz.zeroValue113
 t51:=Tryz.underlying193
 a51:=Tryz.isAgg193
 z51:=Tryz.sizeOf193
 v51:=Tryz.zeroValue193
 t146:=Tryz.underlying194
 a146:=Tryz.isAgg194
 z146:=Tryz.sizeOf194
 v146:=Tryz.zeroValue194
 g1:=by kernel_rfl }
def Tryz.lays138_ren:Go.Shelf.Ren:=⟨fun | 138=>90 | 195=>103 | 218=>104 | 143=>91 | 219=>105 | 217=>94 | 225=>114 | 224=>115 | 267=>116 | 266=>109 | 314=>127 | n=>n,fun | 9=>9 | 3=>3 | 4=>4 | 5=>5 | 0=>0 | 46=>113 | 146=>194 | 51=>193 | n=>n,fun | 1=>1 | n=>n⟩
theorem Tryz.lays138:Go.Proofs.Lays.n138 Tryz.prog Tryz.lays138_ren:={
 mixed:=by kernel_rfl
 f138:=Tryz.func90.trans (congrArg some (by kernel_rfl))
 f143:=Tryz.func91.trans (congrArg some (by kernel_rfl))
 f195:=Tryz.func103.trans (congrArg some (by kernel_rfl))
 f217:=Tryz.func94.trans (congrArg some (by kernel_rfl))
 f218:=Tryz.func104.trans (congrArg some (by kernel_rfl))
 f219:=Tryz.func105.trans (congrArg some (by kernel_rfl))
 f224:=Tryz.func115.trans (congrArg some (by kernel_rfl))
 f225:=Tryz.func114.trans (congrArg some (by kernel_rfl))
 f266:=Tryz.func109.trans (congrArg some (by kernel_rfl))
 f267:=Tryz.func116.trans (congrArg some (by kernel_rfl))
 f314:=Tryz.func127.trans (congrArg some (by kernel_rfl))
 t0:=Tryz.underlying0
 a0:=Tryz.isAgg0
 z0:=Tryz.sizeOf0
 v0:=Tryz.zeroValue0
 t3:=Tryz.underlying3
 a3:=Tryz.isAgg3
 z3:=Tryz.sizeOf3
 v3:=Tryz.zeroValue3
 t4:=Tryz.underlying4
 a4:=Tryz.isAgg4
 z4:=Tryz.sizeOf4
 v4:=Tryz.zeroValue4
 t5:=Tryz.underlying5
 a5:=Tryz.isAgg5
 z5:=Tryz.sizeOf5
 v5:=Tryz.zeroValue5
 t9:=Tryz.underlying9
 a9:=Tryz.isAgg9
 z9:=Tryz.sizeOf9
 v9:=Tryz.zeroValue9
 t46:=Tryz.underlying113
 a46:=Tryz.isAgg113
 z46:=Tryz.sizeOf113
 v46:=Tryz.zeroValue113
 t51:=Tryz.underlying193
 a51:=Tryz.isAgg193
 z51:=Tryz.sizeOf193
 v51:=Tryz.zeroValue193
 t146:=Tryz.underlying194
 a146:=Tryz.isAgg194
 z146:=Tryz.sizeOf194
 v146:=Tryz.zeroValue194
 g1:=by kernel_rfl }
def Tryz.lays157_ren:Go.Shelf.Ren:=⟨fun | 157=>110 | 229=>124 | 199=>125 | 261=>131 | 311=>133 | 312=>134 | n=>n,fun | 9=>9 | 31=>85 | 3=>3 | 5=>5 | 4=>4 | 119=>187 | 0=>0 | 40=>189 | 152=>201 | 21=>21 | 154=>203 | 51=>193 | 141=>205 | 196=>213 | 193=>210 | 198=>216 | 49=>214 | 194=>211 | 201=>219 | 226=>222 | 46=>113 | 227=>223 | n=>n,fun | 0=>2 | 6=>7 | n=>n⟩
theorem Tryz.lays157:Go.Proofs.Lays.n157 Tryz.prog Tryz.lays157_ren:={
 mixed:=by kernel_rfl
 f157:=Tryz.func110.trans (congrArg some (by kernel_rfl))
 f199:=Tryz.func125.trans (congrArg some (by kernel_rfl))
 f229:=Tryz.func124.trans (congrArg some (by kernel_rfl))
 f261:=Tryz.func131.trans (congrArg some (by kernel_rfl))
 f311:=Tryz.func133.trans (congrArg some (by kernel_rfl))
 f312:=Tryz.func134.trans (congrArg some (by kernel_rfl))
 t0:=Tryz.underlying0
 a0:=Tryz.isAgg0
 z0:=Tryz.sizeOf0
 v0:=Tryz.zeroValue0
 t3:=Tryz.underlying3
 a3:=Tryz.isAgg3
 z3:=Tryz.sizeOf3
 v3:=Tryz.zeroValue3
 t4:=Tryz.underlying4
 a4:=Tryz.isAgg4
 z4:=Tryz.sizeOf4
 v4:=Tryz.zeroValue4
 t5:=Tryz.underlying5
 a5:=Tryz.isAgg5
 z5:=Tryz.sizeOf5
 v5:=Tryz.zeroValue5
 t9:=Tryz.underlying9
 a9:=Tryz.isAgg9
 z9:=Tryz.sizeOf9
 v9:=Tryz.zeroValue9
 t21:=Tryz.underlying21
 a21:=Tryz.isAgg21
 z21:=Tryz.sizeOf21
 v21:=Tryz.zeroValue21
 t31:=Tryz.underlying85
 a31:=Tryz.isAgg85
 z31:=Tryz.sizeOf85
 v31:=Tryz.zeroValue85
 t40:=Tryz.underlying189
 a40:=Tryz.isAgg189
 z40:=Tryz.sizeOf189
 v40:=Tryz.zeroValue189
 t46:=Tryz.underlying113
 a46:=Tryz.isAgg113
 z46:=Tryz.sizeOf113
 v46:=Tryz.zeroValue113
 t49:=Tryz.underlying214
 a49:=Tryz.isAgg214
 z49:=Tryz.sizeOf214
 v49:=Tryz.zeroValue214
 t51:=Tryz.underlying193
 a51:=Tryz.isAgg193
 z51:=Tryz.sizeOf193
 v51:=Tryz.zeroValue193
 t119:=Tryz.underlying187
 a119:=Tryz.isAgg187
 z119:=Tryz.sizeOf187
 t141:=Tryz.underlying205
 a141:=Tryz.isAgg205
 z141:=Tryz.sizeOf205
 v141:=Tryz.zeroValue205
 t152:=Tryz.underlying201
 a152:=Tryz.isAgg201
 z152:=Tryz.sizeOf201
 v152:=Tryz.zeroValue201
 t154:=Tryz.underlying203
 a154:=Tryz.isAgg203
 z154:=Tryz.sizeOf203
 v154:=Tryz.zeroValue203
 t193:=Tryz.underlying210
 a193:=Tryz.isAgg210
 z193:=Tryz.sizeOf210
 v193:=Tryz.zeroValue210
 t194:=Tryz.underlying211
 a194:=Tryz.isAgg211
 z194:=Tryz.sizeOf211
 v194:=Tryz.zeroValue211
 t196:=Tryz.underlying213
 a196:=Tryz.isAgg213
 z196:=Tryz.sizeOf213
 v196:=Tryz.zeroValue213
 t198:=Tryz.underlying216
 a198:=Tryz.isAgg216
 z198:=Tryz.sizeOf216
 v198:=Tryz.zeroValue216
 t201:=Tryz.underlying219
 a201:=Tryz.isAgg219
 z201:=Tryz.sizeOf219
 v201:=Tryz.zeroValue219
 t226:=Tryz.underlying222
 a226:=Tryz.isAgg222
 z226:=Tryz.sizeOf222
 v226:=Tryz.zeroValue222
 t227:=Tryz.underlying223
 a227:=Tryz.isAgg223
 z227:=Tryz.sizeOf223
 v227:=Tryz.zeroValue223
 g0:=by kernel_rfl
 g6:=by kernel_rfl }
def Tryz.lays171_ren:Go.Shelf.Ren:=⟨fun | 171=>130 | 243=>132 | 246=>135 | 283=>136 | 284=>137 | 285=>138 | 286=>139 | 129=>141 | 317=>140 | 318=>142 | 319=>143 | 320=>144 | 337=>145 | 338=>146 | n=>n,fun | 3=>3 | 9=>9 | 2=>2 | 4=>4 | 171=>224 | 0=>0 | 53=>81 | 37=>183 | 5=>5 | 173=>227 | 212=>230 | 51=>193 | 20=>20 | 213=>231 | 46=>113 | 232=>235 | 233=>236 | n=>n,fun | 17=>8 | 18=>9 | 19=>10 | n=>n⟩
theorem Tryz.lays171:Go.Proofs.Lays.n171 Tryz.prog Tryz.lays171_ren:={
 mixed:=by kernel_rfl
 f129:=Tryz.func141.trans (congrArg some (by kernel_rfl))
 f171:=Tryz.func130.trans (congrArg some (by kernel_rfl))
 f243:=Tryz.func132.trans (congrArg some (by kernel_rfl))
 f246:=Tryz.func135.trans (congrArg some (by kernel_rfl))
 f283:=Tryz.func136.trans (congrArg some (by kernel_rfl))
 f284:=Tryz.func137.trans (congrArg some (by kernel_rfl))
 f285:=Tryz.func138.trans (congrArg some (by kernel_rfl))
 f286:=Tryz.func139.trans (congrArg some (by kernel_rfl))
 f317:=Tryz.func140.trans (congrArg some (by kernel_rfl))
 f318:=Tryz.func142.trans (congrArg some (by kernel_rfl))
 f319:=Tryz.func143.trans (congrArg some (by kernel_rfl))
 f320:=Tryz.func144.trans (congrArg some (by kernel_rfl))
 f337:=Tryz.func145.trans (congrArg some (by kernel_rfl))
 f338:=Tryz.func146.trans (congrArg some (by kernel_rfl))
 t0:=Tryz.underlying0
 a0:=Tryz.isAgg0
 z0:=Tryz.sizeOf0
 v0:=Tryz.zeroValue0
 t2:=Tryz.underlying2
 a2:=Tryz.isAgg2
 z2:=Tryz.sizeOf2
 v2:=Tryz.zeroValue2
 t3:=Tryz.underlying3
 a3:=Tryz.isAgg3
 z3:=Tryz.sizeOf3
 v3:=Tryz.zeroValue3
 t4:=Tryz.underlying4
 a4:=Tryz.isAgg4
 z4:=Tryz.sizeOf4
 v4:=Tryz.zeroValue4
 t5:=Tryz.underlying5
 a5:=Tryz.isAgg5
 z5:=Tryz.sizeOf5
 v5:=Tryz.zeroValue5
 t9:=Tryz.underlying9
 a9:=Tryz.isAgg9
 z9:=Tryz.sizeOf9
 v9:=Tryz.zeroValue9
 t20:=Tryz.underlying20
 a20:=Tryz.isAgg20
 z20:=Tryz.sizeOf20
 v20:=Tryz.zeroValue20
 t37:=Tryz.underlying183
 a37:=Tryz.isAgg183
 z37:=Tryz.sizeOf183
 v37:=Tryz.zeroValue183
 t46:=Tryz.underlying113
 a46:=Tryz.isAgg113
 z46:=Tryz.sizeOf113
 v46:=Tryz.zeroValue113
 t51:=Tryz.underlying193
 a51:=Tryz.isAgg193
 z51:=Tryz.sizeOf193
 v51:=Tryz.zeroValue193
 t53:=Tryz.underlying81
 a53:=Tryz.isAgg81
 z53:=Tryz.sizeOf81
 v53:=Tryz.zeroValue81
 t171:=Tryz.underlying224
 a171:=Tryz.isAgg224
 z171:=Tryz.sizeOf224
 v171:=Tryz.zeroValue224
 t173:=Tryz.underlying227
 a173:=Tryz.isAgg227
 z173:=Tryz.sizeOf227
 v173:=Tryz.zeroValue227
 t212:=Tryz.underlying230
 a212:=Tryz.isAgg230
 z212:=Tryz.sizeOf230
 v212:=Tryz.zeroValue230
 t213:=Tryz.underlying231
 a213:=Tryz.isAgg231
 z213:=Tryz.sizeOf231
 t232:=Tryz.underlying235
 a232:=Tryz.isAgg235
 z232:=Tryz.sizeOf235
 v232:=Tryz.zeroValue235
 t233:=Tryz.underlying236
 a233:=Tryz.isAgg236
 z233:=Tryz.sizeOf236
 v233:=Tryz.zeroValue236
 g17:=by kernel_rfl
 g18:=by kernel_rfl
 g19:=by kernel_rfl }
def Tryz.laysPu17_ren:Go.Shelf.Ren:=⟨fun | 17=>108 | 21=>120 | 22=>121 | 23=>122 | 24=>123 | 25=>128 | 27=>130 | 26=>129 | 28=>132 | 29=>135 | 30=>136 | 31=>137 | 32=>138 | 33=>139 | 35=>141 | 34=>140 | 36=>142 | 37=>143 | 38=>144 | 39=>145 | 40=>146 | n=>n,fun | 9=>9 | 3=>3 | 24=>167 | 34=>181 | 4=>4 | 39=>184 | 44=>198 | 37=>183 | 0=>0 | 47=>206 | 50=>209 | 48=>207 | 2=>2 | 52=>224 | 22=>81 | 5=>5 | 55=>227 | 59=>230 | 60=>193 | 20=>20 | 61=>231 | 36=>113 | 65=>235 | 66=>236 | 67=>76 | n=>n,fun | 0=>5 | 1=>6 | 2=>8 | 3=>9 | 4=>10 | n=>n⟩
theorem Tryz.laysPu17:Go.Proofs.LaysPu.n17 Tryz.prog Tryz.laysPu17_ren:={
 mixed:=by kernel_rfl
 f17:=Tryz.func108.trans (congrArg some (by kernel_rfl))
 f21:=Tryz.func120.trans (congrArg some (by kernel_rfl))
 f22:=Tryz.func121.trans (congrArg some (by kernel_rfl))
 f23:=Tryz.func122.trans (congrArg some (by kernel_rfl))
 f24:=Tryz.func123.trans (congrArg some (by kernel_rfl))
 f25:=Tryz.func128.trans (congrArg some (by kernel_rfl))
 f26:=Tryz.func129.trans (congrArg some (by kernel_rfl))
 f27:=Tryz.func130.trans (congrArg some (by kernel_rfl))
 f28:=Tryz.func132.trans (congrArg some (by kernel_rfl))
 f29:=Tryz.func135.trans (congrArg some (by kernel_rfl))
 f30:=Tryz.func136.trans (congrArg some (by kernel_rfl))
 f31:=Tryz.func137.trans (congrArg some (by kernel_rfl))
 f32:=Tryz.func138.trans (congrArg some (by kernel_rfl))
 f33:=Tryz.func139.trans (congrArg some (by kernel_rfl))
 f34:=Tryz.func140.trans (congrArg some (by kernel_rfl))
 f35:=Tryz.func141.trans (congrArg some (by kernel_rfl))
 f36:=Tryz.func142.trans (congrArg some (by kernel_rfl))
 f37:=Tryz.func143.trans (congrArg some (by kernel_rfl))
 f38:=Tryz.func144.trans (congrArg some (by kernel_rfl))
 f39:=Tryz.func145.trans (congrArg some (by kernel_rfl))
 f40:=Tryz.func146.trans (congrArg some (by kernel_rfl))
 t0:=Tryz.underlying0
 a0:=Tryz.isAgg0
 z0:=Tryz.sizeOf0
 v0:=Tryz.zeroValue0
 i0:=by kernel_rfl
 t2:=Tryz.underlying2
 a2:=Tryz.isAgg2
 z2:=Tryz.sizeOf2
 v2:=Tryz.zeroValue2
 i2:=by kernel_rfl
 t3:=Tryz.underlying3
 a3:=Tryz.isAgg3
 z3:=Tryz.sizeOf3
 v3:=Tryz.zeroValue3
 i3:=by kernel_rfl
 t4:=Tryz.underlying4
 a4:=Tryz.isAgg4
 z4:=Tryz.sizeOf4
 v4:=Tryz.zeroValue4
 i4:=by kernel_rfl
 t5:=Tryz.underlying5
 a5:=Tryz.isAgg5
 z5:=Tryz.sizeOf5
 v5:=Tryz.zeroValue5
 i5:=by kernel_rfl
 t9:=Tryz.underlying9
 a9:=Tryz.isAgg9
 z9:=Tryz.sizeOf9
 v9:=Tryz.zeroValue9
 i9:=by kernel_rfl
 t20:=Tryz.underlying20
 a20:=Tryz.isAgg20
 z20:=Tryz.sizeOf20
 v20:=Tryz.zeroValue20
 i20:=by kernel_rfl
 t22:=Tryz.underlying81
 a22:=Tryz.isAgg81
 z22:=Tryz.sizeOf81
 v22:=Tryz.zeroValue81
 i22:=by kernel_rfl
 t24:=Tryz.underlying167
 a24:=Tryz.isAgg167
 z24:=Tryz.sizeOf167
 v24:=Tryz.zeroValue167
 i24:=by kernel_rfl
 t34:=Tryz.underlying181
 a34:=Tryz.isAgg181
 z34:=Tryz.sizeOf181
 v34:=Tryz.zeroValue181
 i34:=by kernel_rfl
 c34:=by kernel_rfl
 t36:=Tryz.underlying113
 a36:=Tryz.isAgg113
 z36:=Tryz.sizeOf113
 v36:=Tryz.zeroValue113
 i36:=by kernel_rfl
 t37:=Tryz.underlying183
 a37:=Tryz.isAgg183
 z37:=Tryz.sizeOf183
 v37:=Tryz.zeroValue183
 i37:=by kernel_rfl
 t39:=Tryz.underlying184
 a39:=Tryz.isAgg184
 z39:=Tryz.sizeOf184
 v39:=Tryz.zeroValue184
 i39:=by kernel_rfl
 t44:=Tryz.underlying198
 a44:=Tryz.isAgg198
 z44:=Tryz.sizeOf198
 v44:=Tryz.zeroValue198
 i44:=by kernel_rfl
 t47:=Tryz.underlying206
 a47:=Tryz.isAgg206
 z47:=Tryz.sizeOf206
 v47:=Tryz.zeroValue206
 i47:=by kernel_rfl
 t48:=Tryz.underlying207
 a48:=Tryz.isAgg207
 z48:=Tryz.sizeOf207
 v48:=Tryz.zeroValue207
 i48:=by kernel_rfl
 t50:=Tryz.underlying209
 a50:=Tryz.isAgg209
 z50:=Tryz.sizeOf209
 v50:=Tryz.zeroValue209
 i50:=by kernel_rfl
 t52:=Tryz.underlying224
 a52:=Tryz.isAgg224
 z52:=Tryz.sizeOf224
 v52:=Tryz.zeroValue224
 i52:=by kernel_rfl
 t55:=Tryz.underlying227
 a55:=Tryz.isAgg227
 z55:=Tryz.sizeOf227
 v55:=Tryz.zeroValue227
 i55:=by kernel_rfl
 t59:=Tryz.underlying230
 a59:=Tryz.isAgg230
 z59:=Tryz.sizeOf230
 v59:=Tryz.zeroValue230
 i59:=by kernel_rfl
 t60:=Tryz.underlying193
 a60:=Tryz.isAgg193
 z60:=Tryz.sizeOf193
 v60:=Tryz.zeroValue193
 i60:=by kernel_rfl
 t61:=Tryz.underlying231
 a61:=Tryz.isAgg231
 z61:=Tryz.sizeOf231
 t65:=Tryz.underlying235
 a65:=Tryz.isAgg235
 z65:=Tryz.sizeOf235
 v65:=Tryz.zeroValue235
 i65:=by kernel_rfl
 t66:=Tryz.underlying236
 a66:=Tryz.isAgg236
 z66:=Tryz.sizeOf236
 v66:=Tryz.zeroValue236
 i66:=by kernel_rfl
 t67:=Tryz.underlying76
 a67:=Tryz.isAgg76
 z67:=Tryz.sizeOf76
 v67:=Tryz.zeroValue76
 i67:=by kernel_rfl
 g0:=by kernel_rfl
 m0:=by kernel_rfl
 g1:=by kernel_rfl
 m1:=by kernel_rfl
 g2:=by kernel_rfl
 m2:=by kernel_rfl
 g3:=by kernel_rfl
 m3:=by kernel_rfl
 g4:=by kernel_rfl
 m4:=by kernel_rfl }
open Go.RowKit Go.Lib in
theorem Tryz.strings_IndexByte (s:ByteArray) (c:Int) (w:World):
  Calls Tryz.prog 70 #[.string s,.int .u8 c] w fun e w'=>e=.returned (.int .i64 (Lib.indexByte s.data.toList c.toNat.toUInt8))∧w'=w:=Any.strings_IndexByte Tryz.lays137 s c w
open Go.RowKit Go.Lib in
theorem Tryz.stringslite_IndexByte (s:ByteArray) (c:Int) (w:World):
  Calls Tryz.prog 94 #[.string s,.int .u8 c] w fun e w'=>e=.returned (.int .i64 (Lib.indexByte s.data.toList c.toNat.toUInt8))∧w'=w:=Any.stringslite_IndexByte Tryz.lays217 s c w
open Go.RowKit Go.Lib in
theorem Tryz.strings_Index_one (s:ByteArray) (c:UInt8) (w:World):
  Calls Tryz.prog 91 #[.string s,.string ⟨#[c]⟩] w fun e w'=>e=.returned (.int .i64 (Lib.indexByte s.data.toList c))∧w'=w:=Any.strings_Index_one Tryz.lays143 s c w
open Go.RowKit Go.Lib in
theorem Tryz.strings_Count_one (s:ByteArray) (c:UInt8) (w:World):
  Calls Tryz.prog 90 #[.string s,.string ⟨#[c]⟩] w fun e w'=>e=.returned (.int .i64 (Lib.countByte s.data.toList c))∧w'=w:=Any.strings_Count_one Tryz.lays138 s c w
open Go.RowKit Go.Lib in
theorem Tryz.toError_syntax (fn s:ByteArray) (base bits:Int) (ev:Value) (w:World) (hlim:s.size≤281474976710656) (hv:w.cell? ⟨5,0,none⟩=some ev) (hev:ev=.nilIface∨∃ te pe,ev=.iface te pe):
  Calls Tryz.prog 108 #[.string fn,.string s,.int .i64 base,.int .i64 bits,.iface 181 (.int .i64 2)] w fun e w'=>∃ N,e=.returned (.iface 184 (.pointer (some ⟨N,0,none⟩)))∧w.heap.size≤N∧w'.heap[N]?=some (.cells #[.string fn,.string s,ev] 198 (0,0))∧Below w.heap.size w w':=AnyPu.strconv_toError_syntax Tryz.laysPu17 fn s base bits ev w hlim hv hev
open Go.RowKit Go.Lib in
theorem Tryz.toError_range (fn s:ByteArray) (base bits:Int) (ev:Value) (w:World) (hlim:s.size≤281474976710656) (hv:w.cell? ⟨6,0,none⟩=some ev) (hev:ev=.nilIface∨∃ te pe,ev=.iface te pe):
  Calls Tryz.prog 108 #[.string fn,.string s,.int .i64 base,.int .i64 bits,.iface 181 (.int .i64 1)] w fun e w'=>∃ N,e=.returned (.iface 184 (.pointer (some ⟨N,0,none⟩)))∧w.heap.size≤N∧w'.heap[N]?=some (.cells #[.string fn,.string s,ev] 198 (0,0))∧Below w.heap.size w w':=AnyPu.strconv_toError_range Tryz.laysPu17 fn s base bits ev w hlim hv hev
open Go.RowKit Go.Lib in
theorem Tryz.strings_Fields (s:ByteArray) (w:World) (hs:s.size<4294967281) (hascii:∀ (j:Nat) b,s.data.toList[j]?=some b→b.toNat<128) (htab:Lib.TabIs Tryz.prog w "strings.asciiSpace" .u8 Lib.asciiSpaceTab):
  Calls Tryz.prog 110 #[.string s] w fun e w'=>
   e=.returned (.slice (some ⟨w.heap.size,0,none⟩) (Lib.fields s.data.toList).length (Lib.fields s.data.toList).length)∧w'=w.alloc (.cells ((Lib.fields s.data.toList).map fun l=>Value.string ⟨l.toArray⟩).toArray 9):=Any.strings_Fields Tryz.lays157 (by kernel_rfl) (by kernel_rfl) s w hs hascii htab
open Go.RowKit Go.Lib in
theorem Tryz.strconv_Itoa_small (i:Nat) (hi:i<100) (w:World):
  Calls Tryz.prog 130 #[.int .i64 i] w fun e w'=>e=.returned (.string ⟨(Lib.decDigits i).toArray⟩)∧w'=w:=Any.strconv_Itoa_small Tryz.lays171 i hi w
end Go.Proofs
namespace Go.E
open Go
def PT.vals {α:Type}:PT α→(Nat→Nat)→List (Nat×α)
 | .nil,_=>[]
 | .node l v r,f=>(match v with | some x=>[(f 0,x)] | none=>[])++(l.vals (fun k=>f (2*k+1))++r.vals (fun k=>f (2*k+2)))
theorem PT.all_vals {α:Type} {p:Nat→α→Prop}:∀ (t:PT α) (f:Nat→Nat),(∀ x∈t.vals f,p x.1 x.2)→t.All p f
 | .nil,_,_=>trivial
 | .node l v r,f,h=>⟨fun x hx=>by
   subst hx
   exact h (f 0,x) (by simp [PT.vals]),PT.all_vals l _ fun x hx=>h x (by simp [PT.vals,hx]),PT.all_vals r _ fun x hx=>h x (by simp [PT.vals,hx])⟩
theorem PT.all_map {α β:Type} {p:Nat→α→Prop} {g h:Nat×α→β} {t:PT α} (hp:∀ x:Nat×α,g x=h x→p x.1 x.2) (e:(t.vals fun k=>k).map g=(t.vals fun k=>k).map h):t.All p fun k=>k:=
 PT.all_vals t _ fun x hx=>hp x (List.map_inj_left.1 e x hx)
noncomputable def zL {α:Type} (x:α):PT α:=.node .nil (some x) .nil
noncomputable def zN {α:Type} (l:PT α) (x:α) (r:PT α):PT α:=.node l (some x) r
end Go.E
namespace Go.Proofs.YtcplfckncandkaaGreatDoorE
open Go Go.E Go.Proofs
set_option maxRecDepth 100000
open Tryz in
noncomputable def tyT:PT TypeInfo:=zN (zN (zN (zN (zN (zN (zN (zL t127) t63 (zL t191)) t31 (zN (zL t159) t95 (zL t223))) t15 (zN (zN (zL t143) t79 (zL t207)) t47 (zN (zL t175) t111 (zL t239)))) t7 (zN (zN (zN (zL t135) t71
 (zL t199)) t39 (zN (zL t167) t103 (zL t231))) t23 (zN (zN (zL t151) t87 (zL t215)) t55 (zN (zL t183) t119 (zL t247))))) t3 (zN (zN (zN (zN (zL t131) t67 (zL t195)) t35 (zN (zL t163) t99 (zL t227))) t19 (zN (zN (zL t147) t83 (zL t211)) t51
 (zN (zL t179) t115 (zL t243)))) t11 (zN (zN (zN (zL t139) t75 (zL t203)) t43 (zN (zL t171) t107 (zL t235))) t27 (zN (zN (zL t155) t91 (zL t219)) t59 (zN (zL t187) t123 .nil))))) t1 (zN (zN (zN (zN (zN (zL t129) t65 (zL t193)) t33 (zN (zL
 t161) t97 (zL t225))) t17 (zN (zN (zL t145) t81 (zL t209)) t49 (zN (zL t177) t113 (zL t241)))) t9 (zN (zN (zN (zL t137) t73 (zL t201)) t41 (zN (zL t169) t105 (zL t233))) t25 (zN (zN (zL t153) t89 (zL t217)) t57 (zN (zL t185) t121 (zL
 t249))))) t5 (zN (zN (zN (zN (zL t133) t69 (zL t197)) t37 (zN (zL t165) t101 (zL t229))) t21 (zN (zN (zL t149) t85 (zL t213)) t53 (zN (zL t181) t117 (zL t245)))) t13 (zN (zN (zN (zL t141) t77 (zL t205)) t45 (zN (zL t173) t109 (zL t237)))
 t29 (zN (zN (zL t157) t93 (zL t221)) t61 (zN (zL t189) t125 .nil)))))) t0 (zN (zN (zN (zN (zN (zN (zL t128) t64 (zL t192)) t32 (zN (zL t160) t96 (zL t224))) t16 (zN (zN (zL t144) t80 (zL t208)) t48 (zN (zL t176) t112 (zL t240)))) t8 (zN
 (zN (zN (zL t136) t72 (zL t200)) t40 (zN (zL t168) t104 (zL t232))) t24 (zN (zN (zL t152) t88 (zL t216)) t56 (zN (zL t184) t120 (zL t248))))) t4 (zN (zN (zN (zN (zL t132) t68 (zL t196)) t36 (zN (zL t164) t100 (zL t228))) t20 (zN (zN (zL
 t148) t84 (zL t212)) t52 (zN (zL t180) t116 (zL t244)))) t12 (zN (zN (zN (zL t140) t76 (zL t204)) t44 (zN (zL t172) t108 (zL t236))) t28 (zN (zN (zL t156) t92 (zL t220)) t60 (zN (zL t188) t124 .nil))))) t2 (zN (zN (zN (zN (zN (zL t130) t66
 (zL t194)) t34 (zN (zL t162) t98 (zL t226))) t18 (zN (zN (zL t146) t82 (zL t210)) t50 (zN (zL t178) t114 (zL t242)))) t10 (zN (zN (zN (zL t138) t74 (zL t202)) t42 (zN (zL t170) t106 (zL t234))) t26 (zN (zN (zL t154) t90 (zL t218)) t58 (zN
 (zL t186) t122 .nil)))) t6 (zN (zN (zN (zN (zL t134) t70 (zL t198)) t38 (zN (zL t166) t102 (zL t230))) t22 (zN (zN (zL t150) t86 (zL t214)) t54 (zN (zL t182) t118 (zL t246)))) t14 (zN (zN (zN (zL t142) t78 (zL t206)) t46 (zN (zL t174) t110
 (zL t238))) t30 (zN (zN (zL t158) t94 (zL t222)) t62 (zN (zL t190) t126 .nil))))))
open Tryz in
noncomputable def unT:PT TypeDesc:=zN (zN (zN (zN (zN (zN (zN (zL t127.desc) t63.desc (zL t190.desc)) t31.desc (zN (zL t159.desc) t95.desc (zL t223.desc))) t15.desc (zN (zN (zL t143.desc) t79.desc (zL t207.desc)) t47.desc
 (zN (zL t175.desc) t111.desc (zL t239.desc)))) t7.desc (zN (zN (zN (zL t135.desc) t71.desc (zL t199.desc)) t39.desc (zN (zL t166.desc) t103.desc (zL t231.desc))) t23.desc (zN (zN (zL t151.desc) t87.desc (zL t215.desc)) t55.desc (zN (zL
 t183.desc) t119.desc (zL t247.desc))))) t3.desc (zN (zN (zN (zN (zL t131.desc) t67.desc (zL t195.desc)) t35.desc (zN (zL t163.desc) t99.desc (zL t227.desc))) t18.desc (zN (zN (zL t147.desc) t83.desc (zL t211.desc)) t51.desc (zN (zL
 t179.desc) t115.desc (zL t5.desc)))) t9.desc (zN (zN (zN (zL t139.desc) t75.desc (zL t202.desc)) t43.desc (zN (zL t171.desc) t107.desc (zL t235.desc))) t26.desc (zN (zN (zL t155.desc) t91.desc (zL t218.desc)) t59.desc (zN (zL t187.desc)
 t123.desc .nil))))) t1.desc (zN (zN (zN (zN (zN (zL t129.desc) t65.desc (zL t193.desc)) t33.desc (zN (zL t161.desc) t97.desc (zL t225.desc))) t17.desc (zN (zN (zL t145.desc) t81.desc (zL t208.desc)) t49.desc (zN (zL t177.desc) t113.desc
 (zL t240.desc)))) t9.desc (zN (zN (zN (zL t137.desc) t73.desc (zL t201.desc)) t41.desc (zN (zL t169.desc) t105.desc (zL t233.desc))) t25.desc (zN (zN (zL t153.desc) t89.desc (zL t217.desc)) t56.desc (zN (zL t185.desc) t121.desc (zL
 t249.desc))))) t5.desc (zN (zN (zN (zN (zL t133.desc) t69.desc (zL t197.desc)) t37.desc (zN (zL t165.desc) t101.desc (zL t229.desc))) t21.desc (zN (zN (zL t149.desc) t85.desc (zL t212.desc)) t53.desc (zN (zL t3.desc) t117.desc (zL
 t21.desc)))) t13.desc (zN (zN (zN (zL t141.desc) t77.desc (zL t205.desc)) t44.desc (zN (zL t173.desc) t109.desc (zL t237.desc))) t3.desc (zN (zN (zL t157.desc) t93.desc (zL t221.desc)) t61.desc (zN (zL t189.desc) t125.desc .nil))))))
 t0.desc (zN (zN (zN (zN (zN (zN (zL t128.desc) t64.desc (zL t192.desc)) t32.desc (zN (zL t160.desc) t96.desc (zL t224.desc))) t16.desc (zN (zN (zL t144.desc) t79.desc (zL t208.desc)) t48.desc (zN (zL t176.desc) t111.desc (zL t240.desc))))
 t7.desc (zN (zN (zN (zL t136.desc) t71.desc (zL t200.desc)) t40.desc (zN (zL t168.desc) t104.desc (zL t232.desc))) t24.desc (zN (zN (zL t152.desc) t88.desc (zL t215.desc)) t56.desc (zN (zL t184.desc) t120.desc (zL t247.desc))))) t4.desc
 (zN (zN (zN (zN (zL t132.desc) t68.desc (zL t196.desc)) t36.desc (zN (zL t164.desc) t100.desc (zL t228.desc))) t20.desc (zN (zN (zL t148.desc) t84.desc (zL t212.desc)) t52.desc (zN (zL t180.desc) t116.desc (zL t244.desc)))) t12.desc (zN
 (zN (zN (zL t140.desc) t76.desc (zL t204.desc)) t44.desc (zN (zL t172.desc) t107.desc (zL t236.desc))) t28.desc (zN (zN (zL t156.desc) t92.desc (zL t220.desc)) t59.desc (zN (zL t188.desc) t124.desc .nil))))) t2.desc (zN (zN (zN (zN (zN (zL
 t130.desc) t66.desc (zL t194.desc)) t34.desc (zN (zL t162.desc) t97.desc (zL t226.desc))) t18.desc (zN (zN (zL t146.desc) t82.desc (zL t210.desc)) t50.desc (zN (zL t178.desc) t114.desc (zL t5.desc)))) t9.desc (zN (zN (zN (zL t138.desc)
 t73.desc (zL t202.desc)) t41.desc (zN (zL t170.desc) t105.desc (zL t234.desc))) t26.desc (zN (zN (zL t154.desc) t90.desc (zL t218.desc)) t58.desc (zN (zL t186.desc) t121.desc .nil)))) t5.desc (zN (zN (zN (zN (zL t134.desc) t70.desc (zL
 t197.desc)) t38.desc (zN (zL t166.desc) t101.desc (zL t230.desc))) t22.desc (zN (zN (zL t150.desc) t86.desc (zL t214.desc)) t54.desc (zN (zL t182.desc) t118.desc (zL t21.desc)))) t13.desc (zN (zN (zN (zL t142.desc) t78.desc (zL t206.desc))
 t46.desc (zN (zL t174.desc) t110.desc (zL t237.desc))) t30.desc (zN (zN (zL t157.desc) t93.desc (zL t222.desc)) t28.desc (zN (zL t190.desc) t126.desc .nil))))))
open Tryz in
noncomputable def fnT:PT (FuncId×Func):=(.node (.node (zN (zN (zN (zN (zN (zL (127,f127)) (63,f63) .nil) (31,f31) (zL (95,f95))) (15,f15) (zN (zN (zL (143,f143)) (79,f79) .nil) (47,f47) (zL (111,f111)))) (7,f7)
 (zN (zN (zN (zL (135,f135)) (71,f71) .nil) (39,f39) (zL (103,f103))) (23,f23) (zN (zL (87,f87)) (55,f55) (zL (119,f119))))) (3,f3) (zN (zN (zN (zN (zL (131,f131)) (67,f67) .nil) (35,f35) (zL (99,f99))) (19,f19) (zN (zL (83,
 f83)) (51,f51) (zL (115,f115)))) (11,f11) (zN (zN (zN (zL (139,f139)) (75,f75) .nil) (43,f43) (zL (107,f107))) (27,f27) (zN (zL (91,f91)) (59,f59) (zL (123,f123)))))) none (zN (zN (zN (zN (zN (zL (129,f129)) (65,f65) .nil)
 (33,f33) (zL (97,f97))) (17,f17) (zN (zN (zL (145,f145)) (81,f81) .nil) (49,f49) (zL (113,f113)))) (9,f9) (zN (zN (zN (zL (137,f137)) (73,f73) .nil) (41,f41) (zL (105,f105))) (25,f25) (zN (zL (89,f89)) (57,f57) (zL (121,
 f121))))) (5,f5) (zN (zN (zN (zN (zL (133,f133)) (69,f69) .nil) (37,f37) (zL (101,f101))) (21,f21) (zN (zL (85,f85)) (53,f53) (zL (117,f117)))) (13,f13) (zN (zN (zN (zL (141,f141)) (77,f77) .nil) (45,f45) .nil) (29,f29) (zN
 (zL (93,f93)) (61,f61) (zL (125,f125))))))) none (zN (zN (zN (zN (zN (zN (zL (128,f128)) (64,f64) .nil) (32,f32) (zL (96,f96))) (16,f16) (zN (zN (zL (144,f144)) (80,f80) .nil) (48,f48) (zL (112,f112)))) (8,f8) (zN (zN (zN (zL
 (136,f136)) (72,f72) .nil) (40,f40) .nil) (24,f24) (zN (zL (88,f88)) (56,f56) (zL (120,f120))))) (4,f4) (zN (zN (zN (zN (zL (132,f132)) (68,f68) .nil) (36,f36) (zL (100,f100))) (20,f20) (zN (zL (84,f84)) (52,f52) (zL (116,
 f116)))) (12,f12) (zN (zN (zN (zL (140,f140)) (76,f76) .nil) (44,f44) (zL (108,f108))) (28,f28) (zN (zL (92,f92)) (60,f60) (zL (124,f124)))))) (2,f2) (zN (zN (zN (zN (zN (zL (130,f130)) (66,f66) .nil) (34,f34) (zL (98,f98)))
 (18,f18) (zN (zN (zL (146,f146)) (82,f82) .nil) (50,f50) .nil)) (10,f10) (zN (zN (zN (zL (138,f138)) (74,f74) .nil) (42,f42) (zL (106,f106))) (26,f26) (zN (zL (90,f90)) (58,f58) (zL (122,f122))))) (6,f6) (zN (zN (zN (zN (zL
 (134,f134)) (70,f70) .nil) (38,f38) (zL (102,f102))) (22,f22) (zN (zL (86,f86)) (54,f54) (zN (zL (182,f182)) (118,f118) .nil))) (14,f14) (zN (zN (zN (zL (142,f142)) (78,f78) .nil) (46,f46) (zL (110,f110))) (30,f30) (zN (zL
 (94,f94)) (62,f62) (zL (126,f126))))))))
theorem tyT_ok:tyT.All (InfP Tryz.prog) (fun k=>k):=PT.all_map (g:=fun x=>Tryz.prog.info? x.1) (h:=fun x=>some x.2) (fun _ e=>e) (by kernel_rfl)
theorem unT_ok:unT.All (UndP Tryz.prog) (fun k=>k):=PT.all_map (g:=fun x=>Tryz.prog.underlying x.1) (h:=fun x=>some x.2) (fun _ e=>e) (by kernel_rfl)
theorem fnT_ok:fnT.All (FnP Tryz.prog) (fun k=>k):=PT.all_map (g:=fun x=>(fun args w=>(callFunc x.1 args).run Tryz.prog w,Tryz.prog.funcs[x.2.1]?)) (h:=fun x=>(fun args w=>.ok (.enter x.2.1 args) w,some x.2.2)) (fun _ e=>⟨fun args w=>congrFun (congrFun (congrArg Prod.fst e) args) w,congrArg Prod.snd e⟩) (by kernel_rfl)
def zb3:List (List UInt8×Nat):=[([97,108,117],5),([97],6),([98],6),([100],6),([108,105,116],8),([115,105,122,101],2),([99,99],2),([109,101,109],4),([115,101,113],3),([99,111,110,100],5),([116,111],11),([109,105,115,99],6)]
def fieldsC:List Value:=zb3.flatMap fun x=>[.string ⟨⟨x.1⟩⟩,.int .i64 x.2]
def asciiC:List Value:=Lib.asciiSpaceTab.map fun z=>.int .u8 z
def zsI (f:Nat):Bool:=Nat.beq f 70||Nat.beq f 94
def zsJ (f:Nat) (vs:List Value):Option Value:=
 cond (zsI f) (match vs with
  | [.string s,.int .u8 c]=>some (.int .i64 (Lib.indexByte s.data.toList c.toNat.toUInt8))
  | _=>none)
 (cond (Nat.beq f 90) (match vs with
  | [.string s,.string t]=>(match t.data.toList with
    | [c]=>some (.int .i64 (Lib.countByte s.data.toList c))
    | _=>none)
  | _=>none)
 (cond (Nat.beq f 91) (match vs with
  | [.string s,.string t]=>(match t.data.toList with
    | [c]=>some (.int .i64 (Lib.indexByte s.data.toList c))
    | _=>none)
  | _=>none) none))
def extF (f:Nat) (vs:List Value):Option Value:=
 cond (Nat.beq f 130) (match vs with
  | [.int .i64 n]=>cond (decide (0≤n)&&decide (n<100)) (some (.string ⟨(Lib.decDigits n.toNat).toArray⟩)) none
  | _=>none) (zsJ f vs)
def zeX (nx g:Nat):Con:=⟨nx,nx+1,[(g,.table [.chan (some g)])],[],.iface 184 (.pointer (some ⟨nx,0,none⟩))⟩
def zmA (f:Nat) (vs:List Value) (nx:Nat):Option Con:=
 cond (Nat.beq f 108) (match vs with
  | [.string _,.string s,.int .i64 _,.int .i64 _,.iface t (.int .i64 k)]=>cond (Nat.ble s.size 281474976710656&&Nat.beq t 181) (cond (decide (k=2)) (some (zeX nx 5)) (cond (decide (k=1)) (some (zeX nx 6)) none)) none
  | _=>none) none
def pureL:List Nat:=[67,69,32,48,72,73,95,38,61,55,75,57,78,58,36,24,97,96,76,53,74,54,56,35,6,42,23,44,27,43,64,63,85,86,84,99,21,14,11]
def barL:List Nat:=[12,20]
noncomputable def Lk0:Lk where
 info t:=tyT.get t
 und t:=unT.get t
 func f:=fnT.get f
 glob g:=Nat.beq g 5||Nat.beq g 6||Nat.beq g 0||Nat.beq g 2
 ext:=extF
 con:=zmA
 pureF f:=pureL.any (Nat.beq f)
 barF f:=barL.any (Nat.beq f)
theorem zpf {t:ByteArray} {c:UInt8} (h:t.data.toList=[c]):t=⟨#[c]⟩:=by
 cases t with
 | mk d=>cases d with
   | mk l=>simp only at h;rw [h]
theorem zvP {f:Nat} {vs:List Value} {v:Value} (h:zsJ f vs=some v):(∀ x∈vs,flat3 x=true)∧flat3 v=true∧∀ w,
  ∃ j,(∀ bs w,(callFunc f bs).run Tryz.prog w=.ok (.enter j bs) w)∧Calls Tryz.prog j vs.toArray w fun e w'=>e=.returned v∧RowKit.Below w.heap.size w w':=by
 have still:∀ (w w':World),w'=w→RowKit.Below w.heap.size w w':=fun w w' e=>by subst e;exact ⟨rfl,rfl,rfl,zlr _,fun _ _=>rfl⟩
 unfold zsJ at h
 cases hi:zsI f with
 | true=>
   rw [hi] at h
   simp only [zct] at h
   split at h
   ·rename_i s c
    cases h
    refine ⟨fun x hx=>by simp at hx;rcases hx with rfl | rfl<;>rfl,rfl,fun w=>?_⟩
    unfold zsI at hi
    simp only [Bool.or_eq_true,zar,decide_eq_true_eq] at hi
    rcases hi with rfl | rfl
    ·exact ⟨70,Tryz.call70,(Tryz.strings_IndexByte s c w).mono fun e w' ⟨h1,h2⟩=>⟨h1,still w w' h2⟩⟩
    ·exact ⟨94,Tryz.call94,(Tryz.stringslite_IndexByte s c w).mono fun e w' ⟨h1,h2⟩=>⟨h1,still w w' h2⟩⟩
   ·cases h
 | false=>
   rw [hi] at h
   simp only [zcf] at h
   cases h59:Nat.beq f 90 with
   | true=>
     rw [h59] at h
     have:=beq_true h59
     subst this
     simp only [zct] at h
     split at h
     ·rename_i s t
      split at h
      ·rename_i c hc
       cases h
       have:=zpf hc
       subst this
       exact ⟨fun x hx=>by simp at hx;rcases hx with rfl | rfl<;>rfl,rfl,fun w=>⟨90,Tryz.call90,(Tryz.strings_Count_one s c w).mono fun e w' ⟨h1,h2⟩=>⟨h1,still w w' h2⟩⟩⟩
      ·cases h
     ·cases h
   | false=>
     rw [h59] at h
     simp only [zcf] at h
     cases h60:Nat.beq f 91 with
     | true=>
       rw [h60] at h
       have:=beq_true h60
       subst this
       simp only [zct] at h
       split at h
       ·rename_i s t
        split at h
        ·rename_i c hc
         cases h
         have:=zpf hc
         subst this
         exact ⟨fun x hx=>by simp at hx;rcases hx with rfl | rfl<;>rfl,rfl,fun w=>⟨91,Tryz.call91,(Tryz.strings_Index_one s c w).mono fun e w' ⟨h1,h2⟩=>⟨h1,still w w' h2⟩⟩⟩
        ·cases h
       ·cases h
     | false=>rw [h60] at h;cases h
theorem zw5 {f:Nat} {vs:List Value} {v:Value} (h:extF f vs=some v):(∀ x∈vs,flat3 x=true)∧flat3 v=true∧∀ w,
  ∃ j,(∀ bs w,(callFunc f bs).run Tryz.prog w=.ok (.enter j bs) w)∧Calls Tryz.prog j vs.toArray w fun e w'=>e=.returned v∧RowKit.Below w.heap.size w w':=by
 have still:∀ (w w':World),w'=w→RowKit.Below w.heap.size w w':=fun w w' e=>by subst e;exact ⟨rfl,rfl,rfl,zlr _,fun _ _=>rfl⟩
 unfold extF at h
 cases hi:Nat.beq f 130 with
 | false=>rw [hi] at h;exact zvP h
 | true=>
   rw [hi] at h
   simp only [zct] at h
   have hf:f=130:=by rw [zar] at hi;exact of_decide_eq_true hi
   subst hf
   split at h
   ·rename_i n
    cases hc:(decide (0≤n)&&decide (n<100)) with
    | false=>rw [hc] at h;cases h
    | true=>
      rw [hc] at h
      simp only [zct] at h
      cases h
      simp only [zae,decide_eq_true_eq] at hc
      refine ⟨fun x hx=>by simp at hx;subst hx;rfl,rfl,fun w=>⟨130,Tryz.call130,?_⟩⟩
      have hn:(n.toNat:Int)=n:=Int.toNat_of_nonneg hc.1
      have:=Tryz.strconv_Itoa_small n.toNat (by omega) w
      rw [hn] at this
      exact this.mono fun e w' ⟨h1,h2⟩=>⟨h1,still w w' h2⟩
   ·cases h
theorem zah [Sym]:Lk0.Ok Tryz.prog where
 symOp _ _ _ _ _ h:=by cases h
 symLen _ _ h:=by cases h
 info t i h:=PT.all_get tyT _ tyT_ok t i h
 und t d h:=PT.all_get unT _ unT_ok t d h
 func f j fn h:=PT.all_get fnT _ fnT_ok f (j,fn) h
 mixed:=by kernel_rfl
 ext f vs v h:=by
  obtain ⟨h1,h2,h3⟩:=zw5 h
  exact ⟨h1,h2,fun w=>.inl (h3 w)⟩
theorem zal:LkS Lk0:=⟨fun _ _ _ _=>rfl⟩
structure ErrSym [Sym]:Prop where
 e4:∃ t u,Sym.v 5=.iface t u
 e5:∃ t u,Sym.v 6=.iface t u
theorem zr0 [Sym] {g nx:Nat} {fn s:ByteArray} {base bits k:Int} (hs:s.size≤281474976710656) (he:∃ t u,Sym.v g=.iface t u)
  (hc:∀ (ev:Value) (w:World),w.cell? ⟨g,0,none⟩=some ev→(ev=.nilIface∨∃ te pe,ev=.iface te pe)→
   Calls Tryz.prog 108 #[.string fn,.string s,.int .i64 base,.int .i64 bits,.iface 181 (.int .i64 k)] w fun e w'=>∃ N,e=.returned (.iface 184 (.pointer (some ⟨N,0,none⟩)))∧w.heap.size≤N∧w'.heap[N]?=some (.cells #[.string fn,.string s,ev] 198 (0,0))∧RowKit.Below w.heap.size w w'):
  ConFact Tryz.prog 108 [.string fn,.string s,.int .i64 base,.int .i64 bits,.iface 181 (.int .i64 k)] (zeX nx g):=by
 refine ⟨fun x hx=>by simp at hx;rcases hx with rfl | rfl | rfl | rfl | rfl<;>rfl,108,Tryz.call108,fun w pl hob=>?_⟩
 obtain ⟨hb,hoo,obj,hobj,_,arr,T,fr,rfl,hcells⟩:=hob (g,.table [.chan (some g)]) (by simp [zeX])
 obtain ⟨v',hv',hvr⟩:=hcells 0 (.chan (some g)) rfl
 have hv2:v'=Sym.v g:=by cases hvr;rfl
 subst hv2
 have hcell:w.cell? ⟨g,0,none⟩=some (Sym.v g):=by
  unfold World.cell?
  simp only [hobj]
  rw [hoo] at hv'
  simpa using hv'
 refine (hc (Sym.v g) w hcell (.inr he)).mono fun e w' ⟨N,h1,h2,h3,h4⟩=>?_
 refine ⟨_,fun i=>if i=nx then some ⟨N,0,3,0⟩ else none,h1,?_⟩
 have hN:N<w'.heap.size:=(Array.getElem?_eq_some_iff.1 h3).1
 refine ⟨.iface (.ptr (p:=⟨N,0,3,0⟩) (by simp)),h4,fun i p hp=>?_,fun i p hp=>?_,fun i p ob hp ho=>by simp [zeX] at ho,fun i j p q hp hq hi=>by simp [zeX] at hi⟩
 ·split at hp
  ·rename_i e;cases hp;subst e
   exact .inr ⟨zlr _,Nat.lt_succ_self _,h2⟩
  ·cases hp
 ·split at hp
  ·cases hp;exact hN
  ·cases hp
theorem zw6 [Sym] (hE:ErrSym):znb Tryz.prog Lk0:=by
 intro f vs nx c h
 have h0:zmA f vs nx=some c:=h
 clear h
 unfold zmA at h0
 obtain ⟨hf,h1⟩:=zaF h0
 clear h0
 have:=beq_true hf
 subst this
 split at h1
 ·rename_i fn s base bits t k
  obtain ⟨hq,h2⟩:=zaF h1
  clear h1
  simp only [zae,Nat.ble_eq] at hq
  have:=beq_true hq.2
  subst this
  cases k2:decide (k=2) with
  | true=>
    rw [k2] at h2;cases h2
    have:=of_decide_eq_true k2
    subst this
    exact zr0 hq.1 hE.e4 fun ev w hv hev=>Tryz.toError_syntax _ _ _ _ ev w hq.1 hv hev
  | false=>
    rw [k2] at h2
    cases k1:decide (k=1) with
    | true=>
      rw [k1] at h2;cases h2
      have:=of_decide_eq_true k1
      subst this
      exact zr0 hq.1 hE.e5 fun ev w hv hev=>Tryz.toError_range _ _ _ _ ev w hq.1 hv hev
    | false=>rw [k1] at h2;cases h2
 ·cases h1
noncomputable abbrev cc:zak:=cS Tryz.prog Lk0
end Go.Proofs.YtcplfckncandkaaGreatDoorE
namespace Go.Proofs.YtcplfckncandkaaGreatDoorE
set_option maxRecDepth 20000
open Go Go.E Go.Proofs
noncomputable def zlZ (cf:zak) (lf:zab) (c':Int) (st:SS):Option (Value×SS):=
 cond (decide (97≤c')) (
 cond (decide (c'≤122)) (
 some (.bool true,st)) (
 cond (decide (65≤c')) (
 cond (decide (c'≤90)) (
 some (.bool true,st)) (
 some (.bool (decide (c'=95)),st))) (
 some (.bool (decide (c'=95)),st)))) (
 cond (decide (65≤c')) (
 cond (decide (c'≤90)) (
 some (.bool true,st)) (
 some (.bool (decide (c'=95)),st))) (
 some (.bool (decide (c'=95)),st)))
noncomputable abbrev zor:zab:=lS Tryz.prog Lk0 Tryz.f66 zav
theorem zos:Lk0.func 66=some (66,Tryz.f66):=by kernel_rfl
theorem zot [Sym] (c':Int) (st:SS) {r:Value×SS} (h:zlZ cc zor c' st=some r):cc 66 [.int .u8 c'] st=some r:=
 zaf (li:=zav) zah zal zos rfl (fun _=>rfl) (.trans (by kernel_rfl) h)
noncomputable def znC (cf:zak) (lf:zab) (c':Int) (st:SS):Option (Value×SS):=
 cond (decide (48≤c')) (
 some (.bool (decide (c'≤57)),st)) (
 some (.bool false,st))
noncomputable abbrev zpE:zab:=lS Tryz.prog Lk0 Tryz.f68 zav
theorem zpF:Lk0.func 68=some (68,Tryz.f68):=by kernel_rfl
theorem zpG [Sym] (c':Int) (st:SS) {r:Value×SS} (h:znC cc zpE c' st=some r):cc 68 [.int .u8 c'] st=some r:=
 zaf (li:=zav) zah zal zpF rfl (fun _=>rfl) (.trans (by kernel_rfl) h)
def zkJ:LoopI:=⟨[(0,.str),(6,.any)],[(.exit 0,[(0,.str)]),(.ret,[(2,.int .i64)])]⟩
def zl0 (n:Nat):Option LoopI:=cond (Nat.beq n 2) (some zkJ) (none)
noncomputable def zmB (cf:zak) (lf:zab) (s':ByteArray) (st:SS):Option (Value×SS):=
 let a:SS:=(st.ro st.next).new (.iter s' 0)
 (lf 2 [.string s',ptr ((st.ro st.next).next) 0] a).bind fun b=>
 cond (Nat.beq b.1 0) (
 ((b.2.1[0]?).bind asS).bind fun c=>
 some (.int .i64 (c.size:Int),st.adv b.2.2.next)) (
 ((b.2.1[0]?).bind (asI .i64)).bind fun d=>
 some (.int .i64 d,st.adv b.2.2.next))
noncomputable abbrev zgi:zab:=lS Tryz.prog Lk0 Tryz.f67 zl0
theorem zrk:Lk0.func 67=some (67,Tryz.f67):=by kernel_rfl
theorem zrl [Sym] (s':ByteArray) (st:SS) {r:Value×SS} (h:zmB cc zgi s' st=some r):cc 67 [.string s'] st=some r:=
 zaf (li:=zl0) zah zal zrk rfl (fun _=>rfl) (.trans (by kernel_rfl) h)
noncomputable def zdX (cf:zak) (lf:zab) (s':ByteArray) (t6':Value) (st:SS):Option (Nat×List Value×SS):=
 (addr? t6').bind fun a=>
 cond (Nat.beq a.2 0) (
 (st.iterG a.1).bind fun q2=>
 cond (Nat.ble st.lim a.1) (
 cond (decide (q2.2<q2.1.size)) (
 let b:SS:=st.set a.1 (some (.iter q2.1 (q2.2+(Utf8.decode q2.1 q2.2).2)))
 cond (decide (128≤((Utf8.decode q2.1 q2.2).1:Int))) (
 some (1,[.int .i64 (q2.2:Int)],b)) (
 let c:Int:=IntKind.wrap .u8 ((Utf8.decode q2.1 q2.2).1:Int)
 (cf 66 [.int .u8 c] b).bind fun d=>
 ((some d.1).bind asB).bind fun e=>
 cond (!e) (
 let f:Int:=IntKind.wrap .u8 ((Utf8.decode q2.1 q2.2).1:Int)
 (cf 68 [.int .u8 f] d.2).bind fun g=>
 ((some g.1).bind asB).bind fun h=>
 cond (!h) (
 some (1,[.int .i64 (q2.2:Int)],g.2)) (
 lf 2 [.string s',t6'] g.2)) (
 lf 2 [.string s',t6'] d.2))) (
 some (0,[.string s'],st))) none) none
theorem zez [Sym] (s':ByteArray) (t6':Value) (st:SS) {r:Nat×List Value×SS} (h:zdX cc zgi s' t6' st=some r):zgi 2 [.string s',t6'] st=some r:=
 zay zah zal (key:=2) (I:=zkJ) rfl (by kernel_rfl) (by kernel_rfl) rfl rfl (.trans (by kernel_rfl) h)
end Go.Proofs.YtcplfckncandkaaGreatDoorE
namespace Go.Proofs.YtcplfckncandkaaGreatDoorE
open Go Go.E Go.Proofs
def zdY (c:Int):Bool:=(decide (97≤c)&&decide (c≤122))||(decide (65≤c)&&decide (c≤90))||decide (c=95)
def zfx (c:Int):Bool:=decide (48≤c)&&decide (c≤57)
theorem zh7 [Sym] (c:Int) (st:SS):cc 66 [.int .u8 c] st=some (.bool (zdY c),st):=by
 refine zot c st ?_
 unfold zlZ zdY
 cases decide (97≤c)<;>cases decide (c≤122)<;>cases decide (65≤c)<;>cases decide (c≤90)<;>simp
theorem digit_ok [Sym] (c:Int) (st:SS):cc 68 [.int .u8 c] st=some (.bool (zfx c),st):=by
 refine zpG c st ?_
 unfold znC zfx
 cases decide (48≤c)<;>cases decide (c≤57)<;>simp
def nameB (b:UInt8):Bool:=zdY b.toNat||zfx b.toNat
theorem zvQ {b:UInt8} (h:nameB b=true):b.toNat<128:=by
 unfold nameB zdY zfx at h
 simp only [Bool.or_eq_true,zae,decide_eq_true_eq] at h
 omega
def zaP (l:List UInt8):Nat:=(l.takeWhile nameB).length
theorem get!_of {s:ByteArray} {i:Nat} {b:UInt8} (h:(bl s)[i]?=some b):s.get! i=b:=by
 unfold bl at h
 rw [Array.getElem?_toList] at h
 show s.data[i]! =b
 rw [getElem!_def,h]
theorem zqs {s:ByteArray} {i:Nat} {b:UInt8} (h:(bl s)[i]?=some b) (hb:b.toNat<128):Utf8.decode s i=(b.toNat,1):=by
 unfold Utf8.decode
 simp only [Nat.add_zero,get!_of h,if_pos hb]
theorem zsK {s:ByteArray} {i:Nat} {b:UInt8} (h:(bl s)[i]?=some b) (hb:128≤b.toNat):128≤(Utf8.decode s i).1:=by
 unfold Utf8.decode
 simp only [Nat.add_zero,get!_of h,if_neg (Nat.not_lt.2 hb)]
 repeat' split
 all_goals simp_all [Utf8.runeError]
 all_goals omega
theorem drop_cons {α:Type} {l:List α} {i:Nat} {b:α} (h:l[i]?=some b):l.drop i=b::l.drop (i+1):=by
 obtain ⟨h1,h2⟩:=List.getElem?_eq_some_iff.1 h
 rw [List.drop_eq_getElem_cons h1,h2]
theorem zh8 {b:UInt8} {l:List UInt8}:zaP (b::l)=if nameB b then 1+zaP l else 0:=by
 unfold zaP
 simp only [List.takeWhile_cons]
 split<;>simp;omega
theorem zl1 (s:ByteArray):(bl s).drop s.size=[]:=by
 rw [List.drop_eq_nil_iff];simp
theorem zvR [Sym] (s:ByteArray) (i:Nat):∀ (k p:Nat) (st:SS),k+p=s.size→st.mem.get i=some (.iter s p)→st.lim≤i→
  ∃ idx vs st',zgi 2 [.string s,ptr i 0] st=some (idx,vs,st')∧st'.next=st.next∧
   ((idx=0∧vs=[.string s]∧p+zaP ((bl s).drop p)=s.size)∨(idx=1∧vs=[.int .i64 ((p+zaP ((bl s).drop p):Nat):Int)])):=by
 intro k
 induction k with
 | zero=>
   intro p st hk hm hl
   have hp:p=s.size:=by omega
   subst hp
   refine ⟨0,[.string s],st,zez s _ st ?_,rfl,.inl ⟨rfl,rfl,by rw [zl1];rfl⟩⟩
   simp [zdX,addr?,ptr,SS.iterG_get hm,hl]
 | succ k ih=>
   intro p st hk hm hl
   have hlt:p<s.size:=by omega
   have hb:∃ b,(bl s)[p]?=some b:=⟨_,zge (by rw [zaQ];exact hlt)⟩
   obtain ⟨b,hb⟩:=hb
   have hd:=drop_cons hb
   by_cases hbig:128≤b.toNat
   ·have hdec:=zsK hb hbig
    have hn:nameB b=false:=by
     cases h:nameB b with
     | false=>rfl
     | true=>have:=zvQ h;omega
    refine ⟨1,[.int .i64 (p:Int)],st.set i (some (.iter s (p+(Utf8.decode s p).2))),zez s _ st ?_,rfl,.inr ⟨rfl,by rw [hd,zh8,hn];simp⟩⟩
    have h128:(128:Int)≤((Utf8.decode s p).1:Int):=by omega
    simp [zdX,addr?,ptr,SS.iterG_get hm,hl,hlt,h128]
   ·have hdec:=zqs hb (by omega)
    have h128:¬ (128:Int)≤(b.toNat:Int):=by omega
    have hw:IntKind.wrap .u8 (b.toNat:Int)=b.toNat:=ziT (by omega) (u8_lt b)
    cases hn:nameB b with
    | false=>
      unfold nameB at hn
      simp only [Bool.or_eq_false_iff] at hn
      refine ⟨1,[.int .i64 (p:Int)],st.set i (some (.iter s (p+1))),zez s _ st ?_,rfl,.inr ⟨rfl,by rw [hd,zh8,nameB,hn.1,hn.2];simp⟩⟩
      simp [zdX,addr?,ptr,SS.iterG_get hm,hl,hlt,hdec,h128,hw,zh7,digit_ok,hn.1,hn.2]
    | true=>
      obtain ⟨idx,vs,st',h1,h2,h3⟩:=ih (p+1) (st.set i (some (.iter s (p+1)))) (by omega) (by simp) hl
      refine ⟨idx,vs,st',zez s _ st ?_,h2,?_⟩
      ·have hn':=hn
       unfold nameB at hn'
       cases hl1:zdY b.toNat with
       | true=>simpa [zdX,addr?,ptr,SS.iterG_get hm,hl,hlt,hdec,h128,hw,zh7,hl1] using h1
       | false=>
         rw [hl1,Bool.false_or] at hn'
         simpa [zdX,addr?,ptr,SS.iterG_get hm,hl,hlt,hdec,h128,hw,zh7,digit_ok,hl1,hn'] using h1
      ·rw [hd,zh8,hn,if_pos rfl]
       rcases h3 with ⟨a,b',c⟩ | ⟨a,b'⟩
       ·exact .inl ⟨a,b',by omega⟩
       ·exact .inr ⟨a,by rw [b'];congr 2;omega⟩
theorem zgo [Sym] (s:ByteArray) (st:SS):∃ n,st.next≤n∧cc 67 [.string s] st=some (.int .i64 (zaP (bl s):Nat),st.adv n):=by
 obtain ⟨idx,vs,st',h1,h2,h3⟩:=zvR s st.next s.size 0 ((st.ro st.next).new (.iter s 0)) (by omega) (SS.new_get (st:=st.ro st.next)) (zlr _)
 refine ⟨st'.next,by rw [h2];simp,zrl s st ?_⟩
 rcases h3 with ⟨rfl,rfl,h⟩ | ⟨rfl,rfl⟩
 ·simp only [List.drop_zero,Nat.zero_add] at h
  simp [zmB,h1,h]
 ·simp [zmB,h1]
def mkS (l:List UInt8):ByteArray:=⟨⟨l⟩⟩
@[simp] theorem zbI (l:List UInt8):bl (mkS l)=l:=rfl
@[simp] theorem mkS_bl (s:ByteArray):mkS (bl s)=s:=by cases s with | mk d=>cases d;rfl
@[simp] theorem zcs (l:List UInt8):(mkS l).size=l.length:=rfl
theorem zdZ (s:ByteArray) (l h:Nat):s.extract l h=mkS (((bl s).take h).drop l):=by
 rw [← zjx,mkS_bl]
theorem zhx (a b:ByteArray):eqT a b=decide (bl a=bl b):=rfl
def pieces (c:UInt8):List UInt8→List (List UInt8)
 | []=>[[]]
 | b::r=>if b=c then []::pieces c r else match pieces c r with
   | []=>[[b]]
   | x::y=>(b::x)::y
def zf2 (cur:List UInt8):List (List UInt8)→List (List UInt8)
 | []=>[cur]
 | x::y=>(cur++x)::y
theorem zfl (c:UInt8) (l:List UInt8):pieces c l≠[]:=by
 cases l with
 | nil=>simp [pieces]
 | cons b r=>
   unfold pieces
   split
   ·simp
   ·split<;>simp
theorem zl2 {p:List (List UInt8)} (h:p≠[]):zf2 [] p=p:=by cases p with | nil=>exact absurd rfl h | cons x y=>rfl
theorem zqu (cur:List UInt8) (b c:UInt8) (r:List UInt8) (h:b≠c):zf2 cur (pieces c (b::r))=zf2 (cur++[b]) (pieces c r):=by
 show zf2 cur (if b=c then []::pieces c r else match pieces c r with
  | []=>[[b]]
  | x::y=>(b::x)::y)=_
 rw [if_neg h]
 have:=zfl c r
 cases hp:pieces c r with
 | nil=>exact absurd hp this
 | cons x y=>simp [zf2]
theorem pieces_len (c:UInt8) (l:List UInt8):(pieces c l).length≤l.length+1:=by
 induction l with
 | nil=>simp [pieces]
 | cons b r ih=>
   unfold pieces
   split
   ·simp;omega
   ·split<;>rename_i h<;>rw [h] at ih<;>simp at ih ⊢<;>omega
def strs (l:List (List UInt8)):List Value:=l.map fun x=>.string (mkS x)
@[simp] theorem zxP (l:List (List UInt8)):(strs l).length=l.length:=by simp [strs]
theorem zl3 (a b:List (List UInt8)):strs (a++b)=strs a++strs b:=by simp [strs]
theorem Rd.new1 {st:SS} {row:List Value} {z:Nat} (h:row.length=z):Rd (st.new (.cells row z)) (.slice (some ⟨st.next,0,none⟩) 1 1) row z 1:=
 ⟨by rw [h,Nat.one_mul],.inr ⟨st.next,1,rfl,⟨z,SS.new_get⟩,by simp⟩⟩
end Go.Proofs.YtcplfckncandkaaGreatDoorE
namespace Go.Proofs.YtcplfckncandkaaGreatDoorE
set_option maxRecDepth 20000
open Go Go.E Go.Proofs
noncomputable def strings_Split (cf:zak) (lf:zab) (s':ByteArray) (sep':ByteArray) (st:SS):Option (Value×SS):=
 (cf 65 [.string s',.string sep',.int .i64 0,.int .i64 (-1)] st).bind fun a=>
 some (a.1,a.2)
noncomputable abbrev zmC:zab:=lS Tryz.prog Lk0 Tryz.f46 zav
theorem zmD:Lk0.func 46=some (46,Tryz.f46):=by kernel_rfl
theorem zmE [Sym] (s':ByteArray) (sep':ByteArray) (st:SS) {r:Value×SS} (h:strings_Split cc zmC s' sep' st=some r):cc 46 [.string s',.string sep'] st=some r:=
 zaf (li:=zav) zah zal zmD rfl (fun _=>rfl) (.trans (by kernel_rfl) h)
def zfm:LoopI:=⟨[(0,.str),(1,.str),(2,.int .i64),(3,.int .i64),(9,.any),(10,.int .i64)],[(.exit 0,[(0,.str),(9,.any),(10,.int .i64)])]⟩
def zfQ (n:Nat):Option LoopI:=cond (Nat.beq n 11) (some zfm) (none)
noncomputable def strings_genSplit (cf:zak) (lf:zab) (s':ByteArray) (sep':ByteArray) (sepSave':Int) (n':Int) (st:SS):Option (Value×SS):=
 cond (decide (n'=0)) (
 some (.slice none 0 0,st)) (
 cond (eqT sep' ⟨#[]⟩) (
 (cf 89 [.string s',.int .i64 n'] st).bind fun a=>
 some (a.1,a.2)) (
 cond (decide (n'<0)) (
 (cf 90 [.string s',.string sep'] st).bind fun b=>
 ((some b.1).bind (asI .i64)).bind fun c=>
 let d:Int:=IntKind.wrap .i64 (c+1)
 let e:Int:=IntKind.wrap .i64 ((s'.size:Int)+1)
 let f:Int:=if e<d then e else d
 (ze9 f f 16).bind fun _=>
 let g:SS:=b.2.new (.cells (zeW [.string ⟨#[]⟩] f) 1)
 let h:Int:=IntKind.wrap .i64 (f-1)
 (lf 11 [.string s',.string sep',.int .i64 sepSave',.int .i64 h,.slice (some ⟨b.2.next,0,none⟩) ((f:Int).toNat) ((f:Int).toNat),.int .i64 0] g).bind fun i=>
 ((i.2.1[0]?).bind asS).bind fun j=>
 (i.2.1[1]?).bind fun k=>
 ((i.2.1[2]?).bind (asI .i64)).bind fun l=>
 (zau k l 1).bind fun m=>
 (i.2.2.st m.1 m.2 [.string j]).bind fun n=>
 let o:Int:=IntKind.wrap .i64 (l+1)
 (n.resl k 1 0 o).bind fun p=>
 some (p,n)) (
 let q:Int:=IntKind.wrap .i64 ((s'.size:Int)+1)
 let r:Int:=if q<n' then q else n'
 (ze9 r r 16).bind fun _=>
 let s:SS:=st.new (.cells (zeW [.string ⟨#[]⟩] r) 1)
 let t:Int:=IntKind.wrap .i64 (r-1)
 (lf 11 [.string s',.string sep',.int .i64 sepSave',.int .i64 t,.slice (some ⟨st.next,0,none⟩) ((r:Int).toNat) ((r:Int).toNat),.int .i64 0] s).bind fun u=>
 ((u.2.1[0]?).bind asS).bind fun v=>
 (u.2.1[1]?).bind fun w=>
 ((u.2.1[2]?).bind (asI .i64)).bind fun x=>
 (zau w x 1).bind fun y=>
 (u.2.2.st y.1 y.2 [.string v]).bind fun z=>
 let A:Int:=IntKind.wrap .i64 (x+1)
 (z.resl w 1 0 A).bind fun B=>
 some (B,z))))
noncomputable abbrev zb5:zab:=lS Tryz.prog Lk0 Tryz.f65 zfQ
theorem zki:Lk0.func 65=some (65,Tryz.f65):=by kernel_rfl
theorem zkj [Sym] (s':ByteArray) (sep':ByteArray) (sepSave':Int) (n':Int) (st:SS) {r:Value×SS} (h:strings_genSplit cc zb5 s' sep' sepSave' n' st=some r):cc 65 [.string s',.string sep',.int .i64 sepSave',.int .i64 n'] st=some r:=
 zaf (li:=zfQ) zah zal zki rfl (fun _=>rfl) (.trans (by kernel_rfl) h)
noncomputable def zdG (cf:zak) (lf:zab) (s':ByteArray) (sep':ByteArray) (sepSave':Int) (n':Int) (a':Value) (i':Int) (st:SS):Option (Nat×List Value×SS):=
 cond (decide (i'<n')) (
 (cf 91 [.string s',.string sep'] st).bind fun a=>
 ((some a.1).bind (asI .i64)).bind fun b=>
 cond (decide (b<0)) (
 some (0,[.string s',a',.int .i64 i'],a.2)) (
 let c:Int:=IntKind.wrap .i64 (b+sepSave')
 (zci s' 0 c).bind fun d=>
 (zau a' i' 1).bind fun e=>
 (a.2.st e.1 e.2 [.string d]).bind fun f=>
 let g:Int:=IntKind.wrap .i64 (b+(sep'.size:Int))
 (zci s' g (s'.size:Int)).bind fun h=>
 let i:Int:=IntKind.wrap .i64 (i'+1)
 lf 11 [.string h,.string sep',.int .i64 sepSave',.int .i64 n',a',.int .i64 i] f)) (
 some (0,[.string s',a',.int .i64 i'],st))
theorem zeI [Sym] (s':ByteArray) (sep':ByteArray) (sepSave':Int) (n':Int) (a':Value) (i':Int) (st:SS) {r:Nat×List Value×SS} (h:zdG cc zb5 s' sep' sepSave' n' a' i' st=some r):zb5 11 [.string s',.string sep',.int .i64 sepSave',.int .i64 n',a',.int .i64 i'] st=some r:=
 zay zah zal (key:=11) (I:=zfm) rfl (by kernel_rfl) (by kernel_rfl) rfl rfl (.trans (by kernel_rfl) h)
noncomputable def zeY (cf:zak) (lf:zab) (s':ByteArray) (prefix0':ByteArray) (st:SS):Option (Value×SS):=
 (cf 117 [.string s',.string prefix0'] st).bind fun a=>
 ((some a.1).bind asB).bind fun b=>
 cond (!b) (
 some (.tuple #[.string s',.bool false],a.2)) (
 (zci s' (prefix0'.size:Int) (s'.size:Int)).bind fun c=>
 some (.tuple #[.string c,.bool true],a.2))
noncomputable abbrev zgU:zab:=lS Tryz.prog Lk0 Tryz.f106 zav
theorem zgV:Lk0.func 106=some (106,Tryz.f106):=by kernel_rfl
theorem zgW [Sym] (s':ByteArray) (prefix0':ByteArray) (st:SS) {r:Value×SS} (h:zeY cc zgU s' prefix0' st=some r):cc 106 [.string s',.string prefix0'] st=some r:=
 zaf (li:=zav) zah zal zgV rfl (fun _=>rfl) (.trans (by kernel_rfl) h)
noncomputable def zeZ (cf:zak) (lf:zab) (s':ByteArray) (prefix0':ByteArray) (st:SS):Option (Value×SS):=
 cond (decide ((prefix0'.size:Int)≤(s'.size:Int))) (
 (zci s' 0 (prefix0'.size:Int)).bind fun s1=>
 some (.bool (eqT s1 prefix0'),st)) (
 some (.bool false,st))
noncomputable abbrev zgX:zab:=lS Tryz.prog Lk0 Tryz.f117 zav
theorem zgY:Lk0.func 117=some (117,Tryz.f117):=by kernel_rfl
theorem zgZ [Sym] (s':ByteArray) (prefix0':ByteArray) (st:SS) {r:Value×SS} (h:zeZ cc zgX s' prefix0' st=some r):cc 117 [.string s',.string prefix0'] st=some r:=
 zaf (li:=zav) zah zal zgY rfl (fun _=>rfl) (.trans (by kernel_rfl) h)
noncomputable def strings_CutPrefix (cf:zak) (lf:zab) (s':ByteArray) (prefix0':ByteArray) (st:SS):Option (Value×SS):=
 (cf 106 [.string s',.string prefix0'] st).bind fun a=>
 ((zan a.1 0).bind asS).bind fun b=>
 ((zan a.1 1).bind asB).bind fun c=>
 some (.tuple #[.string b,.bool c],a.2)
noncomputable abbrev zjz:zab:=lS Tryz.prog Lk0 Tryz.f92 zav
theorem zjA:Lk0.func 92=some (92,Tryz.f92):=by kernel_rfl
theorem zjB [Sym] (s':ByteArray) (prefix0':ByteArray) (st:SS) {r:Value×SS} (h:strings_CutPrefix cc zjz s' prefix0' st=some r):cc 92 [.string s',.string prefix0'] st=some r:=
 zaf (li:=zav) zah zal zjA rfl (fun _=>rfl) (.trans (by kernel_rfl) h)
noncomputable def zeQ (cf:zak) (lf:zab) (s':ByteArray) (base':Int) (bitSize':Int) (st:SS):Option (Value×SS):=
 (cf 107 [.string s',.int .i64 base',.int .i64 bitSize'] st).bind fun a=>
 ((zan a.1 0).bind (asI .u64)).bind fun b=>
 (zan a.1 1).bind fun c=>
 (((zfv c).bind fun r=>some (.bool !r)).bind asB).bind fun d=>
 cond d (
 (cf 108 [.string ⟨#[80,97,114,115,101,85,105,110,116]⟩,.string s',.int .i64 base',.int .i64 bitSize',c] a.2).bind fun e=>
 some (.tuple #[.int .u64 b,e.1],e.2)) (
 some (.tuple #[.int .u64 b,.nilIface],a.2))
noncomputable abbrev zjC:zab:=lS Tryz.prog Lk0 Tryz.f93 zav
theorem zjD:Lk0.func 93=some (93,Tryz.f93):=by kernel_rfl
theorem zfy [Sym] (s':ByteArray) (base':Int) (bitSize':Int) (st:SS) {r:Value×SS} (h:zeQ cc zjC s' base' bitSize' st=some r):cc 93 [.string s',.int .i64 base',.int .i64 bitSize'] st=some r:=
 zaf (li:=zav) zah zal zjD rfl (fun _=>rfl) (.trans (by kernel_rfl) h)
noncomputable def ziU (cf:zak) (lf:zab) (c':Int) (st:SS):Option (Value×SS):=
 let n1:Int:=orI .u8 c' 32
 some (.int .u8 n1,st)
noncomputable abbrev zlB:zab:=lS Tryz.prog Lk0 Tryz.f118 zav
theorem zlC:Lk0.func 118=some (118,Tryz.f118):=by kernel_rfl
theorem zlD [Sym] (c':Int) (st:SS) {r:Value×SS} (h:ziU cc zlB c' st=some r):cc 118 [.int .u8 c'] st=some r:=
 zaf (li:=zav) zah zal zlC rfl (fun _=>rfl) (.trans (by kernel_rfl) h)
def zpg:LoopI:=⟨[(1,.int .i64),(8,.bool),(9,.str),(10,.int .u64),(11,.int .u64),(12,.bool),(13,.int .u64),(99,.any),(100,.int .i64),(101,.int .i64)],[(.exit 3,[(9,.str),(12,.bool),(13,.int .u64)]),(.ret,[(6,.int .u64),(7,.any)])]⟩
def zr1 (n:Nat):Option LoopI:=cond (Nat.beq n 36) (some zpg) (none)
noncomputable def pu10 (cf:zak) (lf:zab) (s':ByteArray) (st:SS):Option (Value×SS):=
 cond (eqT s' ⟨#[]⟩) (
 some (.tuple #[.int .u64 0,.iface 181 (.int .i64 2)],st)) (
 let a:Int:=zkv .u64 1 31
 let c:Int:=IntKind.wrap .u64 (a-1)
 let d:SS:=st.new (.cells (s'.data.toList.map fun b=>.int .u8 b.toNat) 1)
 (lf 36 [.int .i64 10,.bool false,.string s',.int .u64 1844674407370955162,.int .u64 c,.bool false,.int .u64 0,.slice (some ⟨st.next,0,none⟩) s'.size s'.size,.int .i64 ((s'.size:Nat):Int),.int .i64 0] d).bind fun e=>
 cond (Nat.beq e.1 0) (
 ((e.2.1[0]?).bind asS).bind fun f=>
 ((e.2.1[1]?).bind asB).bind fun g=>
 ((e.2.1[2]?).bind (asI .u64)).bind fun h=>
 cond g (
 (cf 119 [.string f] e.2.2).bind fun i=>
 ((some i.1).bind asB).bind fun j=>
 cond (!j) (
 some (.tuple #[.int .u64 0,.iface 181 (.int .i64 2)],i.2)) (
 some (.tuple #[.int .u64 h,.nilIface],i.2))) (
 some (.tuple #[.int .u64 h,.nilIface],e.2.2))) (
 ((e.2.1[0]?).bind (asI .u64)).bind fun k=>
 (e.2.1[1]?).bind fun l=>
 some (.tuple #[.int .u64 k,l],e.2.2)))
noncomputable abbrev zhd:zab:=lS Tryz.prog Lk0 Tryz.f107 zr1
theorem zw7:Lk0.func 107=some (107,Tryz.f107):=by kernel_rfl
theorem zr2 [Sym] (s':ByteArray) (st:SS) {r:Value×SS} (h:pu10 cc zhd s' st=some r):cc 107 [.string s',.int .i64 10,.int .i64 31] st=some r:=
 zaf (li:=zr1) zah zal zw7 rfl (fun _=>rfl) (.trans (by kernel_rfl) h)
noncomputable def zdH (cf:zak) (lf:zab) (base':Int) (s0':ByteArray) (cutoff':Int) (maxVal':Int) (underscores':Bool) (n':Int) (t99':Value) (t100':Int) (t101':Int) (st:SS):Option (Nat×List Value×SS):=
 cond (decide (t101'<t100')) (
 (zau t99' t101' 1).bind fun a=>
 ((st.ld a.1 a.2).bind (asI .u8)).bind fun b=>
 cond (decide (b=95)) (
 cond (decide (48≤b)) (
 cond (decide (b≤57)) (
 let c:Int:=IntKind.wrap .u8 (b-48)
 let d:Int:=IntKind.wrap .u8 base'
 cond (decide (d≤c)) (
 some (1,[.int .u64 0,.iface 181 (.int .i64 2)],st)) (
 cond (decide (cutoff'≤n')) (
 some (1,[.int .u64 maxVal',.iface 181 (.int .i64 1)],st)) (
 let e:Int:=IntKind.wrap .u64 base'
 let f:Int:=IntKind.wrap .u64 (n'*e)
 let g:Int:=IntKind.wrap .u64 c
 let h:Int:=IntKind.wrap .u64 (f+g)
 cond (decide (h<f)) (
 some (1,[.int .u64 maxVal',.iface 181 (.int .i64 1)],st)) (
 cond (decide (maxVal'<h)) (
 some (1,[.int .u64 maxVal',.iface 181 (.int .i64 1)],st)) (
 let i:Int:=IntKind.wrap .i64 (t101'+1)
 lf 36 [.int .i64 base',.bool false,.string s0',.int .u64 cutoff',.int .u64 maxVal',.bool underscores',.int .u64 h,t99',.int .i64 t100',.int .i64 i] st))))) (
 (cf 118 [.int .u8 b] st).bind fun j=>
 ((some j.1).bind (asI .u8)).bind fun k=>
 cond (decide (97≤k)) (
 (cf 118 [.int .u8 b] j.2).bind fun l=>
 ((some l.1).bind (asI .u8)).bind fun m=>
 cond (decide (m≤122)) (
 (cf 118 [.int .u8 b] l.2).bind fun n=>
 ((some n.1).bind (asI .u8)).bind fun o=>
 let p:Int:=IntKind.wrap .u8 (o-97)
 let q:Int:=IntKind.wrap .u8 (p+10)
 let r:Int:=IntKind.wrap .u8 base'
 cond (decide (r≤q)) (
 some (1,[.int .u64 0,.iface 181 (.int .i64 2)],n.2)) (
 cond (decide (cutoff'≤n')) (
 some (1,[.int .u64 maxVal',.iface 181 (.int .i64 1)],n.2)) (
 let s:Int:=IntKind.wrap .u64 base'
 let t:Int:=IntKind.wrap .u64 (n'*s)
 let u:Int:=IntKind.wrap .u64 q
 let v:Int:=IntKind.wrap .u64 (t+u)
 cond (decide (v<t)) (
 some (1,[.int .u64 maxVal',.iface 181 (.int .i64 1)],n.2)) (
 cond (decide (maxVal'<v)) (
 some (1,[.int .u64 maxVal',.iface 181 (.int .i64 1)],n.2)) (
 let w:Int:=IntKind.wrap .i64 (t101'+1)
 lf 36 [.int .i64 base',.bool false,.string s0',.int .u64 cutoff',.int .u64 maxVal',.bool underscores',.int .u64 v,t99',.int .i64 t100',.int .i64 w] n.2))))) (
 some (1,[.int .u64 0,.iface 181 (.int .i64 2)],l.2))) (
 some (1,[.int .u64 0,.iface 181 (.int .i64 2)],j.2)))) (
 (cf 118 [.int .u8 b] st).bind fun x=>
 ((some x.1).bind (asI .u8)).bind fun y=>
 cond (decide (97≤y)) (
 (cf 118 [.int .u8 b] x.2).bind fun z=>
 ((some z.1).bind (asI .u8)).bind fun A=>
 cond (decide (A≤122)) (
 (cf 118 [.int .u8 b] z.2).bind fun B=>
 ((some B.1).bind (asI .u8)).bind fun C=>
 let D:Int:=IntKind.wrap .u8 (C-97)
 let E:Int:=IntKind.wrap .u8 (D+10)
 let F:Int:=IntKind.wrap .u8 base'
 cond (decide (F≤E)) (
 some (1,[.int .u64 0,.iface 181 (.int .i64 2)],B.2)) (
 cond (decide (cutoff'≤n')) (
 some (1,[.int .u64 maxVal',.iface 181 (.int .i64 1)],B.2)) (
 let G:Int:=IntKind.wrap .u64 base'
 let H:Int:=IntKind.wrap .u64 (n'*G)
 let I:Int:=IntKind.wrap .u64 E
 let J:Int:=IntKind.wrap .u64 (H+I)
 cond (decide (J<H)) (
 some (1,[.int .u64 maxVal',.iface 181 (.int .i64 1)],B.2)) (
 cond (decide (maxVal'<J)) (
 some (1,[.int .u64 maxVal',.iface 181 (.int .i64 1)],B.2)) (
 let K:Int:=IntKind.wrap .i64 (t101'+1)
 lf 36 [.int .i64 base',.bool false,.string s0',.int .u64 cutoff',.int .u64 maxVal',.bool underscores',.int .u64 J,t99',.int .i64 t100',.int .i64 K] B.2))))) (
 some (1,[.int .u64 0,.iface 181 (.int .i64 2)],z.2))) (
 some (1,[.int .u64 0,.iface 181 (.int .i64 2)],x.2)))) (
 cond (decide (48≤b)) (
 cond (decide (b≤57)) (
 let L:Int:=IntKind.wrap .u8 (b-48)
 let M:Int:=IntKind.wrap .u8 base'
 cond (decide (M≤L)) (
 some (1,[.int .u64 0,.iface 181 (.int .i64 2)],st)) (
 cond (decide (cutoff'≤n')) (
 some (1,[.int .u64 maxVal',.iface 181 (.int .i64 1)],st)) (
 let N:Int:=IntKind.wrap .u64 base'
 let O:Int:=IntKind.wrap .u64 (n'*N)
 let P:Int:=IntKind.wrap .u64 L
 let Q:Int:=IntKind.wrap .u64 (O+P)
 cond (decide (Q<O)) (
 some (1,[.int .u64 maxVal',.iface 181 (.int .i64 1)],st)) (
 cond (decide (maxVal'<Q)) (
 some (1,[.int .u64 maxVal',.iface 181 (.int .i64 1)],st)) (
 let R:Int:=IntKind.wrap .i64 (t101'+1)
 lf 36 [.int .i64 base',.bool false,.string s0',.int .u64 cutoff',.int .u64 maxVal',.bool underscores',.int .u64 Q,t99',.int .i64 t100',.int .i64 R] st))))) (
 (cf 118 [.int .u8 b] st).bind fun S=>
 ((some S.1).bind (asI .u8)).bind fun T=>
 cond (decide (97≤T)) (
 (cf 118 [.int .u8 b] S.2).bind fun U=>
 ((some U.1).bind (asI .u8)).bind fun V=>
 cond (decide (V≤122)) (
 (cf 118 [.int .u8 b] U.2).bind fun W=>
 ((some W.1).bind (asI .u8)).bind fun X=>
 let Y:Int:=IntKind.wrap .u8 (X-97)
 let Z:Int:=IntKind.wrap .u8 (Y+10)
 let aA:Int:=IntKind.wrap .u8 base'
 cond (decide (aA≤Z)) (
 some (1,[.int .u64 0,.iface 181 (.int .i64 2)],W.2)) (
 cond (decide (cutoff'≤n')) (
 some (1,[.int .u64 maxVal',.iface 181 (.int .i64 1)],W.2)) (
 let aB:Int:=IntKind.wrap .u64 base'
 let aC:Int:=IntKind.wrap .u64 (n'*aB)
 let aD:Int:=IntKind.wrap .u64 Z
 let aE:Int:=IntKind.wrap .u64 (aC+aD)
 cond (decide (aE<aC)) (
 some (1,[.int .u64 maxVal',.iface 181 (.int .i64 1)],W.2)) (
 cond (decide (maxVal'<aE)) (
 some (1,[.int .u64 maxVal',.iface 181 (.int .i64 1)],W.2)) (
 let aF:Int:=IntKind.wrap .i64 (t101'+1)
 lf 36 [.int .i64 base',.bool false,.string s0',.int .u64 cutoff',.int .u64 maxVal',.bool underscores',.int .u64 aE,t99',.int .i64 t100',.int .i64 aF] W.2))))) (
 some (1,[.int .u64 0,.iface 181 (.int .i64 2)],U.2))) (
 some (1,[.int .u64 0,.iface 181 (.int .i64 2)],S.2)))) (
 (cf 118 [.int .u8 b] st).bind fun aG=>
 ((some aG.1).bind (asI .u8)).bind fun aH=>
 cond (decide (97≤aH)) (
 (cf 118 [.int .u8 b] aG.2).bind fun aI=>
 ((some aI.1).bind (asI .u8)).bind fun aJ=>
 cond (decide (aJ≤122)) (
 (cf 118 [.int .u8 b] aI.2).bind fun aK=>
 ((some aK.1).bind (asI .u8)).bind fun aL=>
 let aM:Int:=IntKind.wrap .u8 (aL-97)
 let aN:Int:=IntKind.wrap .u8 (aM+10)
 let aO:Int:=IntKind.wrap .u8 base'
 cond (decide (aO≤aN)) (
 some (1,[.int .u64 0,.iface 181 (.int .i64 2)],aK.2)) (
 cond (decide (cutoff'≤n')) (
 some (1,[.int .u64 maxVal',.iface 181 (.int .i64 1)],aK.2)) (
 let aP:Int:=IntKind.wrap .u64 base'
 let aQ:Int:=IntKind.wrap .u64 (n'*aP)
 let aR:Int:=IntKind.wrap .u64 aN
 let aS:Int:=IntKind.wrap .u64 (aQ+aR)
 cond (decide (aS<aQ)) (
 some (1,[.int .u64 maxVal',.iface 181 (.int .i64 1)],aK.2)) (
 cond (decide (maxVal'<aS)) (
 some (1,[.int .u64 maxVal',.iface 181 (.int .i64 1)],aK.2)) (
 let aT:Int:=IntKind.wrap .i64 (t101'+1)
 lf 36 [.int .i64 base',.bool false,.string s0',.int .u64 cutoff',.int .u64 maxVal',.bool underscores',.int .u64 aS,t99',.int .i64 t100',.int .i64 aT] aK.2))))) (
 some (1,[.int .u64 0,.iface 181 (.int .i64 2)],aI.2))) (
 some (1,[.int .u64 0,.iface 181 (.int .i64 2)],aG.2))))) (
 some (0,[.string s0',.bool underscores',.int .u64 n'],st))
theorem zl4 [Sym] (base':Int) (s0':ByteArray) (cutoff':Int) (maxVal':Int) (underscores':Bool) (n':Int) (t99':Value) (t100':Int) (t101':Int) (st:SS) {r:Nat×List Value×SS} (h:zdH cc zhd base' s0' cutoff' maxVal' underscores' n' t99' t100' t101' st=some r):zhd 36 [.int .i64 base',.bool false,.string s0',.int .u64 cutoff',.int .u64 maxVal',.bool underscores',.int .u64 n',t99',.int .i64 t100',.int .i64 t101'] st=some r:=
 zay zah zal (key:=36) (I:=zpg) rfl (by kernel_rfl) (by kernel_rfl) rfl rfl (.trans (by kernel_rfl) h)
def zuf:LoopI:=⟨[(1,.int .i64),(8,.bool),(9,.str),(10,.int .u64),(11,.int .u64),(12,.bool),(13,.int .u64),(99,.any),(100,.int .i64),(101,.int .i64)],[(.exit 3,[(9,.str),(12,.bool),(13,.int .u64)]),(.ret,[(6,.int .u64),(7,.any)])]⟩
def zr3 (n:Nat):Option LoopI:=cond (Nat.beq n 36) (some zuf) (none)
noncomputable def pu16 (cf:zak) (lf:zab) (s':ByteArray) (st:SS):Option (Value×SS):=
 cond (eqT s' ⟨#[]⟩) (
 some (.tuple #[.int .u64 0,.iface 181 (.int .i64 2)],st)) (
 let a:Int:=zkv .u64 1 31
 let c:Int:=IntKind.wrap .u64 (a-1)
 let d:SS:=st.new (.cells (s'.data.toList.map fun b=>.int .u8 b.toNat) 1)
 (lf 36 [.int .i64 16,.bool false,.string s',.int .u64 1152921504606846976,.int .u64 c,.bool false,.int .u64 0,.slice (some ⟨st.next,0,none⟩) s'.size s'.size,.int .i64 ((s'.size:Nat):Int),.int .i64 0] d).bind fun e=>
 cond (Nat.beq e.1 0) (
 ((e.2.1[0]?).bind asS).bind fun f=>
 ((e.2.1[1]?).bind asB).bind fun g=>
 ((e.2.1[2]?).bind (asI .u64)).bind fun h=>
 cond g (
 (cf 119 [.string f] e.2.2).bind fun i=>
 ((some i.1).bind asB).bind fun j=>
 cond (!j) (
 some (.tuple #[.int .u64 0,.iface 181 (.int .i64 2)],i.2)) (
 some (.tuple #[.int .u64 h,.nilIface],i.2))) (
 some (.tuple #[.int .u64 h,.nilIface],e.2.2))) (
 ((e.2.1[0]?).bind (asI .u64)).bind fun k=>
 (e.2.1[1]?).bind fun l=>
 some (.tuple #[.int .u64 k,l],e.2.2)))
noncomputable abbrev zr4:zab:=lS Tryz.prog Lk0 Tryz.f107 zr3
theorem zw8:Lk0.func 107=some (107,Tryz.f107):=by kernel_rfl
theorem zr5 [Sym] (s':ByteArray) (st:SS) {r:Value×SS} (h:pu16 cc zr4 s' st=some r):cc 107 [.string s',.int .i64 16,.int .i64 31] st=some r:=
 zaf (li:=zr3) zah zal zw8 rfl (fun _=>rfl) (.trans (by kernel_rfl) h)
noncomputable def ze0 (cf:zak) (lf:zab) (s':ByteArray) (st:SS):Option (Value×SS):=
 (cf 92 [.string s',.string ⟨#[48,120]⟩] (st.ro st.next)).bind fun a=>
 ((zan a.1 0).bind asS).bind fun b=>
 ((zan a.1 1).bind asB).bind fun c=>
 cond c (
 (cf 93 [.string b,.int .i64 16,.int .i64 31] a.2).bind fun d=>
 ((zan d.1 0).bind (asI .u64)).bind fun e=>
 (zan d.1 1).bind fun f=>
 let g:Int:=IntKind.wrap .i64 e
 (((zfv f).bind fun r=>some (.bool r)).bind asB).bind fun h=>
 cond h (
 (cf 70 [.string b,.int .u8 95] d.2).bind fun i=>
 ((some i.1).bind (asI .i64)).bind fun j=>
 some (.tuple #[.int .i64 g,.bool (decide (j<0))],st.adv i.2.next)) (
 some (.tuple #[.int .i64 g,.bool false],st.adv d.2.next))) (
 (cf 93 [.string s',.int .i64 10,.int .i64 31] a.2).bind fun k=>
 ((zan k.1 0).bind (asI .u64)).bind fun l=>
 (zan k.1 1).bind fun m=>
 let n:Int:=IntKind.wrap .i64 l
 (((zfv m).bind fun r=>some (.bool r)).bind asB).bind fun o=>
 cond o (
 (cf 70 [.string s',.int .u8 95] k.2).bind fun p=>
 ((some p.1).bind (asI .i64)).bind fun q=>
 some (.tuple #[.int .i64 n,.bool (decide (q<0))],st.adv p.2.next)) (
 some (.tuple #[.int .i64 n,.bool false],st.adv k.2.next)))
noncomputable abbrev zou:zab:=lS Tryz.prog Lk0 Tryz.f69 zav
theorem zov:Lk0.func 69=some (69,Tryz.f69):=by kernel_rfl
theorem ziV [Sym] (s':ByteArray) (st:SS) {r:Value×SS} (h:ze0 cc zou s' st=some r):cc 69 [.string s'] st=some r:=
 zaf (li:=zav) zah zal zov rfl (fun _=>rfl) (.trans (by kernel_rfl) h)
end Go.Proofs.YtcplfckncandkaaGreatDoorE
namespace Go.Proofs.YtcplfckncandkaaGreatDoorE
open Go Go.E Go.Proofs
theorem zph (c:UInt8) (l:List UInt8):(Lib.indexByte l c= -1∧pieces c l=[l]∧l.count c=0)∨
  ∃ m:Nat,Lib.indexByte l c=m∧m<l.length∧pieces c l=l.take m::pieces c (l.drop (m+1))∧l.count c=(l.drop (m+1)).count c+1:=by
 induction l with
 | nil=>exact .inl ⟨rfl,rfl,rfl⟩
 | cons b r ih=>
   by_cases hb:b=c
   ·subst hb
    refine .inr ⟨0,?_,by simp,?_,?_⟩
    ·simp [Lib.indexByte]
    ·simp [pieces]
    ·simp
   ·rcases ih with ⟨h1,h2,h3⟩ | ⟨m,h1,h2,h3,h4⟩
    ·refine .inl ⟨?_,?_,?_⟩
     ·simp [Lib.indexByte,hb,h1]
     ·simp [pieces,hb,h2]
     ·simp [List.count_cons,hb,h3]
    ·refine .inr ⟨m+1,?_,by simp;omega,?_,?_⟩
     ·have:¬ ((m:Int)= -1):=by omega
      simp [Lib.indexByte,hb,h1,this]
     ·simp [pieces,hb,h3]
     ·simp [List.count_cons,hb,h4]
theorem zmF {n:Int} {z:Nat} (h0:0≤n) (h1:n≤1099511627776) (h2:n*z≤70368744177664):ze9 n n z=some ():=by
 unfold ze9
 simp [h0,h1,h2]
theorem zjE (v:Value) (n:Nat):zeW [v] (n:Int)=List.replicate n v:=by
 unfold zeW
 apply List.ext_getElem
 ·simp
 ·intro i h1 h2
  simp
  have:i%1=0:=Nat.mod_one i
  simp [this]
theorem zmG (done:List (List UInt8)) (k:Nat) (x:List UInt8):(strs done++List.replicate (k+1) (Value.string ⟨#[]⟩)).take done.length++([.string (mkS x)]++(strs done++List.replicate (k+1) (Value.string ⟨#[]⟩)).drop (done.length+1))=strs (done++[x])++List.replicate k (Value.string ⟨#[]⟩):=by
 rw [zl3,List.take_append_of_le_length (by simp),List.take_of_length_le (by simp),List.drop_append]
 have h1:(strs done).drop (done.length+1)=[]:=by rw [List.drop_eq_nil_iff];simp
 rw [h1]
 simp [strs]
theorem count_le (c:UInt8) (l:List UInt8):l.count c≤l.length:=List.count_le_length
theorem zw9 (c:UInt8) (s:ByteArray) (st:SS) [Sym]:cc 91 [.string s,.string ⟨#[c]⟩] st=some (.int .i64 (Lib.indexByte (bl s) c),st):=
 zkD (by rfl) st
theorem zvS (c:UInt8) (s:ByteArray) (st:SS) [Sym]:cc 90 [.string s,.string ⟨#[c]⟩] st=some (.int .i64 ((bl s).count c:Nat),st):=
 zkD (by rfl) st
theorem zhy (c:UInt8) (s:ByteArray) (st:SS) [Sym]:cc 70 [.string s,.int .u8 c.toNat] st=some (.int .i64 (Lib.indexByte (bl s) c),st):=by
 refine zkD ?_ st
 show some (Value.int .i64 (Lib.indexByte s.data.toList (c.toNat:Int).toNat.toUInt8))=_
 have:((c.toNat:Int).toNat).toUInt8=c:=by simp
 rw [this];rfl
theorem zsL [Sym] (c:UInt8) (N b:Nat) (st0:SS) (hN:N≤4294967296):∀ (k:Nat) (rest:ByteArray) (done:List (List UInt8)) (st:SS),k=(bl rest).count c→done.length+k=N→rest.size≤4294967296→
  st.mem.get b=some (.cells (strs done++List.replicate (k+1) (.string ⟨#[]⟩)) 1)→st.lim≤b→st0.next≤b→b<st.next→Ext st0 st→
  ∃ (rest':ByteArray) (front:List (List UInt8)) (st':SS),zb5 11 [.string rest,.string ⟨#[c]⟩,.int .i64 0,.int .i64 N,.slice (some ⟨b,0,none⟩) (N+1) (N+1),.int .i64 done.length] st=some (0,[.string rest',.slice (some ⟨b,0,none⟩) (N+1) (N+1),.int .i64 N],st')∧
   st'.mem.get b=some (.cells (strs (done++front)++[.string ⟨#[]⟩]) 1)∧front++[bl rest']=pieces c (bl rest)∧(done++front).length=N∧st'.lim≤b∧b<st'.next∧Ext st0 st':=by
 intro k
 induction k with
 | zero=>
   intro rest done st hk hd hs hm hl hb0 hb he
   rcases zph c (bl rest) with ⟨h1,h2,h3⟩ | ⟨m,h1,h2,h3,h4⟩
   ·refine ⟨rest,[],st,zeI rest _ 0 _ _ _ st ?_,by simpa using hm,by simp [h2],by simp;omega,hl,hb,he⟩
    have:¬ ((done.length:Int)<(N:Int)):=by omega
    simp [zdG,this]
    omega
   ·omega
 | succ k ih=>
   intro rest done st hk hd hs hm hl hb0 hb he
   rcases zph c (bl rest) with ⟨h1,h2,h3⟩ | ⟨m,h1,h2,h3,h4⟩
   ·omega
   ·rw [zaQ] at h2
    have hlt:(done.length:Int)<(N:Int):=by omega
    have hm0:¬ ((m:Int)<0):=by omega
    have hw:IntKind.wrap .i64 (m:Int)=m:=wrap64 (by omega) (by omega)
    have hw1:IntKind.wrap .i64 ((m:Int)+1)=((m+1:Nat):Int):=by rw [wrap64 (by omega) (by omega)];omega
    have hwd:IntKind.wrap .i64 ((done.length:Int)+1)=(((done++[(bl rest).take m]).length:Nat):Int):=by rw [wrap64 (by omega) (by omega)];simp
    have hb1:bl (rest.extract (m+1) rest.size)=(bl rest).drop (m+1):=by
     rw [zjx,List.take_of_length_le (by simp)]
    have hst:st.st b done.length [.string (mkS ((bl rest).take m))]=some (st.set b (some (.cells (strs (done++[(bl rest).take m])++List.replicate (k+1) (.string ⟨#[]⟩)) 1))):=
     SS.st_cells hm hl (by rfl) (by
      rw [zbu (by simp),← zmG]
      rfl)
    obtain ⟨rest',front,st',e1,e2,e3,e4,e5,e6,e7⟩:=ih (rest.extract (m+1) rest.size) (done++[(bl rest).take m]) (st.set b (some (.cells (strs (done++[(bl rest).take m])++List.replicate (k+1) (.string ⟨#[]⟩)) 1)))
     (by rw [hb1];omega) (by simp;omega) (by simp;omega) (by simp) hl hb0 hb (he.set hb0 _)
    refine ⟨rest',(bl rest).take m::front,st',zeI rest _ 0 _ _ _ st ?_,by simpa using e2,by rw [h3,← hb1,← e3];rfl,by simpa using e4,e5,e6,e7⟩
    have hel:zau (.slice (some ⟨b,0,none⟩) (N+1) (N+1)) (done.length:Int) 1=some (b,done.length):=by
     unfold zau
     have:(done.length:Int)<((N+1:Nat):Int):=by omega
     simp only [zdt this]
     simp
    have hs1:zci rest 0 (m:Int)=some (mkS ((bl rest).take m)):=by rw [zgq (by omega) (by omega) (by omega),zdZ];simp
    have hs2:zci rest ((m+1:Nat):Int) (rest.size:Int)=some (rest.extract (m+1) rest.size):=by rw [zgq (by omega) (by omega) (by omega)];simp
    have hsz:(((⟨#[c]⟩:ByteArray).size:Nat):Int)=1:=rfl
    simp only [zdG,zdt hlt,zct,zw9,zob,zaa,h1,zdf hm0,zcf,Int.add_zero,hw,hs1,hel,hst,hsz,hw1,hs2,hwd]
    exact e1
theorem split_ok [Sym] (s:ByteArray) (c:UInt8) (hs:s.size≤4294967296) (st:SS) (hl:st.lim≤st.next):∃ v st',cc 46 [.string s,.string ⟨#[c]⟩] st=some (v,st')∧Ext st st'∧
  Rd st' v (strs (pieces c (bl s))) 1 (pieces c (bl s)).length:=by
 have hc:=count_le c (bl s)
 rw [zaQ] at hc
 obtain ⟨rest',front,st',e1,e2,e3,e4,e5,e6,e7⟩:=zsL c ((bl s).count c) st.next st (by omega) _ s [] (st.new (.cells (List.replicate ((bl s).count c+1) (.string ⟨#[]⟩)) 1)) rfl (by simp) hs (by simp [strs]) hl (zlr _) (by simp) ((Ext.refl st).new _)
 simp only [List.nil_append] at e2 e4
 have hlen:(pieces c (bl s)).length=(bl s).count c+1:=by rw [← e3];simp [e4]
 have hst:st'.st st.next ((bl s).count c) [.string rest']=some (st'.set st.next (some (.cells (strs (pieces c (bl s))) 1))):=
  SS.st_cells e2 e5 (by rfl) (by
   rw [← e4,zbu (by simp),← e3]
   rw [List.take_append_of_le_length (by simp),List.take_of_length_le (by simp),zl3]
   congr 2
   simp [strs])
 have hw1:IntKind.wrap .i64 (((bl s).count c:Nat)+1:Int)=(((bl s).count c+1:Nat):Int):=by rw [wrap64 (by omega) (by omega)];omega
 have hw2:IntKind.wrap .i64 ((s.size:Int)+1)=((s.size+1:Nat):Int):=by rw [wrap64 (by omega) (by omega)];omega
 have hw3:IntKind.wrap .i64 ((((bl s).count c+1:Nat):Int)-1)=(((bl s).count c:Nat):Int):=by rw [wrap64 (by omega) (by omega)];omega
 have hmin:(if ((s.size+1:Nat):Int)<(((bl s).count c+1:Nat):Int) then ((s.size+1:Nat):Int) else (((bl s).count c+1:Nat):Int))=(((bl s).count c+1:Nat):Int):=by split<;>omega
 have hmk:ze9 (((bl s).count c+1:Nat):Int) (((bl s).count c+1:Nat):Int) 16=some ():=zmF (by omega) (by omega) (by omega)
 have hel:zau (.slice (some ⟨st.next,0,none⟩) ((bl s).count c+1) ((bl s).count c+1)) (((bl s).count c:Nat):Int) 1=some (st.next,(bl s).count c):=by
  unfold zau
  have:(((bl s).count c:Nat):Int)<(((bl s).count c+1:Nat):Int):=by omega
  simp only [zdt this]
  simp
 have hre:(st'.set st.next (some (.cells (strs (pieces c (bl s))) 1))).resl (.slice (some ⟨st.next,0,none⟩) ((bl s).count c+1) ((bl s).count c+1)) 1 0 (((bl s).count c+1:Nat):Int)=some (.slice (some ⟨st.next,0,none⟩) ((bl s).count c+1) ((bl s).count c+1)):=by
  unfold SS.resl
  simp
  rfl
 refine ⟨.slice (some ⟨st.next,0,none⟩) ((bl s).count c+1) ((bl s).count c+1),st'.set st.next (some (.cells (strs (pieces c (bl s))) 1)),zmE s _ st ?_,e7.set (zlr _) _,by simp,.inr ⟨st.next,(bl s).count c+1,by rw [hlen],⟨1,by simp⟩,e6⟩⟩
 have hgen:cc 65 [.string s,.string ⟨#[c]⟩,.int .i64 0,.int .i64 (-1)] st=some (.slice (some ⟨st.next,0,none⟩) ((bl s).count c+1) ((bl s).count c+1),st'.set st.next (some (.cells (strs (pieces c (bl s))) 1))):=by
  refine zkj s _ 0 (-1) st ?_
  have h0:eqT (⟨#[c]⟩:ByteArray) ⟨#[]⟩=false:=by rfl
  have hm1:decide ((-1:Int)=0)=false:=rfl
  have hm2:decide ((-1:Int)<0)=true:=rfl
  simp only [strings_genSplit,hm1,zcf,h0,hm2,zct,zvS,zob,zaa,hw1,hw2,hmin,hmk,zjE,hw3]
  have e1':zb5 11 [.string s,.string ⟨#[c]⟩,.int .i64 0,.int .i64 (((bl s).count c:Nat):Int),.slice (some ⟨st.next,0,none⟩) (Int.toNat (((bl s).count c+1:Nat):Int)) (Int.toNat (((bl s).count c+1:Nat):Int)),.int .i64 0] (st.new (.cells (List.replicate ((bl s).count c+1) (.string ⟨#[]⟩)) 1))=some (0,[.string rest',.slice (some ⟨st.next,0,none⟩) ((bl s).count c+1) ((bl s).count c+1),.int .i64 (((bl s).count c:Nat):Int)],st'):=e1
  rw [e1']
  simp only [zob,zgz,zgs,zac,zaa,hel,hst,hw1,hre]
 simp only [strings_Split,hgen,zob]
end Go.Proofs.YtcplfckncandkaaGreatDoorE
namespace Go.Proofs.YtcplfckncandkaaGreatDoorE
set_option maxRecDepth 20000
open Go Go.E Go.Proofs
def zkb:LoopI:=⟨[(0,.str),(1,.int .i64),(7,.any),(8,.int .i64)],[(.exit 0,[(0,.str),(1,.int .i64),(7,.any)]),(.ret,[(4,.any),(5,.int .i64),(6,.bool)])]⟩
def zkK (n:Nat):Option LoopI:=cond (Nat.beq n 3) (some zkb) (none)
noncomputable def zkL (cf:zak) (lf:zab) (s':ByteArray) (at0':Int) (st:SS):Option (Value×SS):=
 (lf 3 [.string s',.int .i64 at0',.slice none 0 0,.int .i64 0] st).bind fun a=>
 cond (Nat.beq a.1 0) (
 ((a.2.1[0]?).bind asS).bind fun b=>
 ((a.2.1[1]?).bind (asI .i64)).bind fun c=>
 (a.2.1[2]?).bind fun d=>
 let e:Int:=IntKind.wrap .i64 ((b.size:Int)+1)
 let f:SS:=a.2.2.new (.cells ([.int .i64 0,.string ⟨#[]⟩,.int .i64 0,.int .i64 c,.int .i64 e]) 5)
 (f.app 5 48 d (.slice (some ⟨a.2.2.next,0,none⟩) 1 1)).bind fun g=>
 some (.tuple #[g.1,.int .i64 0,.bool true],g.2)) (
 (a.2.1[0]?).bind fun h=>
 ((a.2.1[1]?).bind (asI .i64)).bind fun i=>
 ((a.2.1[2]?).bind asB).bind fun j=>
 some (.tuple #[h,.int .i64 i,.bool j],a.2.2))
noncomputable abbrev zbv:zab:=lS Tryz.prog Lk0 Tryz.f47 zkK
theorem zqv:Lk0.func 47=some (47,Tryz.f47):=by kernel_rfl
theorem zkM [Sym] (s':ByteArray) (at0':Int) (st:SS) {r:Value×SS} (h:zkL cc zbv s' at0' st=some r):cc 47 [.string s',.int .i64 at0'] st=some r:=
 zaf (li:=zkK) zah zal zqv rfl (fun _=>rfl) (.trans (by kernel_rfl) h)
noncomputable def zbw (cf:zak) (lf:zab) (s':ByteArray) (at0':Int) (out':Value) (col':Int) (st:SS):Option (Nat×List Value×SS):=
 cond (decide (col'<(s'.size:Int))) (
 let a:Int:=IntKind.wrap .i64 (col'+1)
 let b:SS:=st.new (.cells [.int .i64 0,.string ⟨#[]⟩,.int .i64 0,.int .i64 0,.int .i64 0] 0)
 (b.st st.next 0 [.int .i64 0,.string ⟨#[]⟩,.int .i64 0,.int .i64 at0',.int .i64 a]).bind fun c=>
 ((zcB s' col').bind (asI .u8)).bind fun d=>
 cond (decide (d=59)) (
 lf 3 [.string s',.int .i64 at0',out',.int .i64 (s'.size:Int)] c) (
 cond (decide (d=32)) (
 let e:Int:=IntKind.wrap .i64 (col'+1)
 lf 3 [.string s',.int .i64 at0',out',.int .i64 e] c) (
 cond (decide (d=9)) (
 let f:Int:=IntKind.wrap .i64 (col'+1)
 lf 3 [.string s',.int .i64 at0',out',.int .i64 f] c) (
 cond (decide (d=13)) (
 let g:Int:=IntKind.wrap .i64 (col'+1)
 lf 3 [.string s',.int .i64 at0',out',.int .i64 g] c) (
 (cf 66 [.int .u8 d] c).bind fun h=>
 ((some h.1).bind asB).bind fun i=>
 cond i (
 (zci s' col' (s'.size:Int)).bind fun j=>
 (cf 67 [.string j] h.2).bind fun k=>
 ((some k.1).bind (asI .i64)).bind fun l=>
 let m:Int:=IntKind.wrap .i64 (col'+l)
 (zci s' col' m).bind fun n=>
 (k.2.st st.next 0 [.int .i64 1]).bind fun o=>
 (o.st st.next 1 [.string n]).bind fun p=>
 ((p.ld st.next 1).bind asS).bind fun q=>
 cond (decide (24<(q.size:Int))) (
 ((p.ld st.next 4).bind (asI .i64)).bind fun r=>
 some (1,[.slice none 0 0,.int .i64 r,.bool false],p)) (
 ((p.ld st.next 1).bind asS).bind fun s=>
 let t:Int:=IntKind.wrap .i64 (col'+(s.size:Int))
 (p.ldN st.next 0 5).bind fun u=>
 (zaW u 5).bind fun v=>
 let w:SS:=p.new (.cells (v++([])) 5)
 (w.app 5 48 out' (.slice (some ⟨p.next,0,none⟩) 1 1)).bind fun x=>
 lf 3 [.string s',.int .i64 at0',x.1,.int .i64 t] x.2)) (
 (cf 68 [.int .u8 d] h.2).bind fun y=>
 ((some y.1).bind asB).bind fun z=>
 cond z (
 (zci s' col' (s'.size:Int)).bind fun A=>
 (cf 67 [.string A] y.2).bind fun B=>
 ((some B.1).bind (asI .i64)).bind fun C=>
 let D:Int:=IntKind.wrap .i64 (col'+C)
 (zci s' col' D).bind fun E=>
 (B.2.st st.next 0 [.int .i64 2]).bind fun F=>
 (F.st st.next 1 [.string E]).bind fun G=>
 ((G.ld st.next 1).bind asS).bind fun H=>
 (cf 69 [.string H] G).bind fun I=>
 ((zan I.1 0).bind (asI .i64)).bind fun J=>
 ((zan I.1 1).bind asB).bind fun K=>
 (I.2.st st.next 2 [.int .i64 J]).bind fun L=>
 cond (!K) (
 ((L.ld st.next 4).bind (asI .i64)).bind fun M=>
 some (1,[.slice none 0 0,.int .i64 M,.bool false],L)) (
 ((L.ld st.next 1).bind asS).bind fun N=>
 let O:Int:=IntKind.wrap .i64 (col'+(N.size:Int))
 (L.ldN st.next 0 5).bind fun P=>
 (zaW P 5).bind fun Q=>
 let R:SS:=L.new (.cells (Q++([])) 5)
 (R.app 5 48 out' (.slice (some ⟨L.next,0,none⟩) 1 1)).bind fun S=>
 lf 3 [.string s',.int .i64 at0',S.1,.int .i64 O] S.2)) (
 (cf 70 [.string ⟨#[58,61,46,43,45]⟩,.int .u8 d] y.2).bind fun T=>
 ((some T.1).bind (asI .i64)).bind fun U=>
 cond (decide (0≤U)) (
 let V:Int:=IntKind.wrap .i64 (col'+1)
 (zci s' col' V).bind fun W=>
 (T.2.st st.next 0 [.int .i64 3]).bind fun X=>
 (X.st st.next 1 [.string W]).bind fun Y=>
 ((Y.ld st.next 1).bind asS).bind fun Z=>
 let aA:Int:=IntKind.wrap .i64 (col'+(Z.size:Int))
 (Y.ldN st.next 0 5).bind fun aB=>
 (zaW aB 5).bind fun aC=>
 let aD:SS:=Y.new (.cells (aC++([])) 5)
 (aD.app 5 48 out' (.slice (some ⟨Y.next,0,none⟩) 1 1)).bind fun aE=>
 lf 3 [.string s',.int .i64 at0',aE.1,.int .i64 aA] aE.2) (
 ((T.2.ld st.next 4).bind (asI .i64)).bind fun aF=>
 some (1,[.slice none 0 0,.int .i64 aF,.bool false],T.2))))))))) (
 some (0,[.string s',.int .i64 at0',out'],st))
theorem za7 [Sym] (s':ByteArray) (at0':Int) (out':Value) (col':Int) (st:SS) {r:Nat×List Value×SS} (h:zbw cc zbv s' at0' out' col' st=some r):zbv 3 [.string s',.int .i64 at0',out',.int .i64 col'] st=some r:=
 zay zah zal (key:=3) (I:=zkb) rfl (by kernel_rfl) (by kernel_rfl) rfl rfl (.trans (by kernel_rfl) h)
def zkN:LoopI:=⟨[(3,.any),(5,.any),(16,.any),(17,.int .i64),(18,.int .i64)],[(.exit 0,[(3,.any),(5,.any)]),(.ret,[(2,.any),(3,.any),(4,.int .i64)])]⟩
def zl5 (n:Nat):Option LoopI:=cond (Nat.beq n 5) (some zkN) (none)
noncomputable def zmH (cf:zak) (lf:zab) (text':ByteArray) (st:SS):Option (Value×SS):=
 let a:SS:=st.new (.cells [.int .i64 0,.int .i64 0] 0)
 cond (decide (131072<(text'.size:Int))) (
 (a.st st.next 0 [.int .i64 0,.int .i64 0]).bind fun b=>
 (b.rdN st.next 0 2).bind fun c=>
 some (.tuple #[.slice none 0 0,c,.int .i64 3],b)) (
 (cf 46 [.string text',.string ⟨#[10]⟩] a).bind fun d=>
 ((lenV d.1).bind (asI .i64)).bind fun e=>
 (lf 5 [ptr st.next 0,.slice none 0 0,d.1,.int .i64 e,.int .i64 0] d.2).bind fun f=>
 cond (Nat.beq f.1 0) (
 (f.2.1[0]?).bind fun g=>
 (f.2.1[1]?).bind fun h=>
 (addr? g).bind fun i=>
 (f.2.2.st i.1 i.2 [.int .i64 0,.int .i64 0]).bind fun j=>
 (addr? g).bind fun k=>
 (j.rdN k.1 k.2 2).bind fun l=>
 some (.tuple #[h,l,.int .i64 0],j)) (
 (f.2.1[0]?).bind fun m=>
 (f.2.1[1]?).bind fun n=>
 ((f.2.1[2]?).bind (asI .i64)).bind fun o=>
 (addr? n).bind fun p=>
 (f.2.2.rdN p.1 p.2 2).bind fun q=>
 some (.tuple #[m,q,.int .i64 o],f.2.2)))
noncomputable abbrev zd0:zab:=lS Tryz.prog Lk0 Tryz.f30 zl5
theorem zrm:Lk0.func 30=some (30,Tryz.f30):=by kernel_rfl
theorem zl6 [Sym] (text':ByteArray) (st:SS) {r:Value×SS} (h:zmH cc zd0 text' st=some r):cc 30 [.string text'] st=some r:=
 zaf (li:=zl5) zah zal zrm rfl (fun _=>rfl) (.trans (by kernel_rfl) h)
noncomputable def zgj (cf:zak) (lf:zab) (t3':Value) (out':Value) (t16':Value) (t17':Int) (t18':Int) (st:SS):Option (Nat×List Value×SS):=
 cond (decide (t18'<t17')) (
 (zau t16' t18' 1).bind fun a=>
 ((st.ld a.1 a.2).bind asS).bind fun b=>
 let c:Int:=IntKind.wrap .i64 (t18'+1)
 (cf 47 [.string b,.int .i64 c] st).bind fun d=>
 (zan d.1 0).bind fun e=>
 ((zan d.1 1).bind (asI .i64)).bind fun f=>
 ((zan d.1 2).bind asB).bind fun g=>
 cond (!g) (
 let h:Int:=IntKind.wrap .i64 (t18'+1)
 (addr? t3').bind fun i=>
 (d.2.st i.1 i.2 [.int .i64 h,.int .i64 f]).bind fun j=>
 some (1,[.slice none 0 0,t3',.int .i64 4],j)) (
 (d.2.app 5 48 out' e).bind fun k=>
 let l:Int:=IntKind.wrap .i64 (t18'+1)
 lf 5 [t3',k.1,t16',.int .i64 t17',.int .i64 l] k.2)) (
 some (0,[t3',out'],st))
theorem zf3 [Sym] (t3':Value) (out':Value) (t16':Value) (t17':Int) (t18':Int) (st:SS) {r:Nat×List Value×SS} (h:zgj cc zd0 t3' out' t16' t17' t18' st=some r):zd0 5 [t3',out',t16',.int .i64 t17',.int .i64 t18'] st=some r:=
 zay zah zal (key:=5) (I:=zkN) rfl (by kernel_rfl) (by kernel_rfl) rfl rfl (.trans (by kernel_rfl) h)
end Go.Proofs.YtcplfckncandkaaGreatDoorE
namespace Go.Proofs.YtcplfckncandkaaGreatDoorE
open Go Go.E Go.Proofs
structure Gd (st:SS):Prop where
 g4:st.mem.get 5=some (.table [.chan (some 5)])
 g5:st.mem.get 6=some (.table [.chan (some 6)])
 gF:st.mem.get 0=some (.table fieldsC)
 gS:st.mem.get 2=some (.table asciiC)
 nx:12≤st.next
theorem Gd.ext {st st':SS} (h:Gd st) (he:Ext st st'):Gd st':=
 ⟨he.get (by have:=h.nx;omega) h.g4,he.get (by have:=h.nx;omega) h.g5,he.get (by have:=h.nx;omega) h.gF,he.get (by have:=h.nx;omega) h.gS,zlt h.nx he.next⟩
theorem Gd.ro {st:SS} {n:Nat} (h:Gd st):Gd (st.ro n):=⟨h.g4,h.g5,h.gF,h.gS,h.nx⟩
theorem zrn (p l:List UInt8):(l.take p.length=p)↔p.isPrefixOf l=true:=by
 rw [List.isPrefixOf_iff_prefix,List.prefix_iff_eq_take]
 exact eq_comm
theorem zqw [Sym] (s p:ByteArray) (st:SS):cc 117 [.string s,.string p] st=some (.bool ((bl p).isPrefixOf (bl s)),st):=by
 refine zgZ s p st ?_
 unfold zeZ
 by_cases h:(p.size:Int)≤(s.size:Int)
 ·simp only [zdt h,zct,zgq (s:=s) (l:=0) (h:=p.size) (by omega) (by omega) h,zob,zhx]
  congr 3
  rw [Bool.eq_iff_iff,decide_eq_true_eq,← zrn,zjx,zaQ]
  simp
 ·simp only [zdf h,zcf]
  congr 3
  have:(bl p).isPrefixOf (bl s)=false:=by
   rw [Bool.eq_false_iff]
   intro hp
   rw [List.isPrefixOf_iff_prefix] at hp
   have:=hp.length_le
   simp at this
   omega
  rw [this]
theorem zqx [Sym] (s p:ByteArray) (st:SS):cc 92 [.string s,.string p] st=some (.tuple #[.string (if (bl p).isPrefixOf (bl s) then mkS ((bl s).drop p.size) else s),.bool ((bl p).isPrefixOf (bl s))],st):=by
 have h1:cc 106 [.string s,.string p] st=some (.tuple #[.string (if (bl p).isPrefixOf (bl s) then mkS ((bl s).drop p.size) else s),.bool ((bl p).isPrefixOf (bl s))],st):=by
  refine zgW s p st ?_
  unfold zeY
  rw [zqw]
  cases hp:(bl p).isPrefixOf (bl s) with
  | false=>simp
  | true=>
    have hp':=hp
    rw [List.isPrefixOf_iff_prefix] at hp'
    have:=hp'.length_le
    simp only [zaQ] at this
    simp [zgq (s:=s) (l:=p.size) (h:=s.size) (by omega) (by omega) (by omega),zdZ]
    rw [List.take_of_length_le (by simp)]
 refine zjB s p st ?_
 unfold strings_CutPrefix
 rw [h1]
 rfl
def zd5 (b:UInt8):Nat:=(orI .u8 b.toNat 32).toNat
theorem zkO (n:Int):0≤IntKind.wrap .u8 n∧IntKind.wrap .u8 n<256:=by
 rw [← zho]
 show 0≤((zdC n 256:Nat):Int)∧((zdC n 256:Nat):Int)<256
 rw [zfZ _ _ (by decide)]
 omega
theorem zug (b:UInt8):orI .u8 b.toNat 32=(zd5 b:Int):=by
 have:=(zkO ((BitVec.ofInt 8 b.toNat||| BitVec.ofInt 8 32).toNat:Nat)).1
 unfold zd5
 rw [Int.toNat_of_nonneg]
 exact this
theorem low_lt (b:UInt8):zd5 b<256:=by
 have:=(zkO ((BitVec.ofInt 8 b.toNat||| BitVec.ofInt 8 32).toNat:Nat)).2
 have h2:=zug b
 have h3:orI .u8 b.toNat 32<256:=this
 omega
theorem zvT [Sym] (b:UInt8) (st:SS):cc 118 [.int .u8 b.toNat] st=some (.int .u8 (zd5 b),st):=by
 refine zlD _ st ?_
 unfold ziU
 rw [zug]
def zjF (b:UInt8):Option Nat:=if 48≤b.toNat∧b.toNat≤57 then some (b.toNat-48) else if 97≤zd5 b∧zd5 b≤122 then some (zd5 b-87) else none
def zb6 (B:Nat):Nat→List UInt8→Option (Option Nat)
 | n,[]=>some (some n)
 | n,b::r=>match zjF b with
   | none=>none
   | some d=>if B≤d then none else if 2147483647<n*B+d then some none else zb6 B (n*B+d) r
def puR (x:Option (Option Nat)) (s:ByteArray) (st:SS):Nat×List Value×SS:=match x with
 | none=>(1,[.int .u64 0,.iface 181 (.int .i64 2)],st)
 | some none=>(1,[.int .u64 2147483647,.iface 181 (.int .i64 1)],st)
 | some (some m)=>(0,[.string s,.bool false,.int .u64 m],st)
theorem zr6 [Sym] (s s0:ByteArray) (B:Nat) (hB:0<B∧B≤16) (C:Int) (hC:2147483648≤C) (i cap:Nat) (st:SS) (hs:s.size≤4294967296) (hm:st.mem.get i=some (.cells (s.data.toList.map fun b=>.int .u8 b.toNat) 1)):∀ (l:List UInt8) (p n:Nat),(bl s).drop p=l→p≤s.size→n≤2147483647→
  zhd 36 [.int .i64 B,.bool false,.string s0,.int .u64 C,.int .u64 2147483647,.bool false,.int .u64 n,.slice (some ⟨i,0,none⟩) s.size cap,.int .i64 s.size,.int .i64 p] st=some (puR (zb6 B n l) s0 st):=by
 intro l
 induction l with
 | nil=>
   intro p n hp hle hn
   have hps:p=s.size:=by
    rw [List.drop_eq_nil_iff,zaQ] at hp
    omega
   subst hps
   refine zl4 _ _ _ _ _ _ _ _ _ st ?_
   simp [zdH,zb6,puR]
 | cons b r ih=>
   intro p n hp hle hn
   have hb:(bl s)[p]?=some b:=by
    have:=congrArg (·[0]?) hp
    simpa using this
   have hlt:p<s.size:=by
    obtain ⟨h,_⟩:=List.getElem?_eq_some_iff.1 hb
    simpa using h
   have hr:(bl s).drop (p+1)=r:=by
    have:=drop_cons hb
    rw [hp] at this
    exact (List.cons.inj this).2.symm
   have hlt':(p:Int)<(s.size:Int):=by omega
   have hel:zau (.slice (some ⟨i,0,none⟩) s.size cap) (p:Int) 1=some (i,p):=by
    unfold zau
    simp [hlt]
   have hld:(st.ld i p).bind (asI .u8)=some (b.toNat:Int):=by
    rw [SS.ld_cells hm,List.getElem?_map]
    show (((bl s)[p]?).map _).bind _=_
    rw [hb]
    rfl
   have hwp:IntKind.wrap .i64 ((p:Int)+1)=((p+1:Nat):Int):=by rw [wrap64 (by omega) (by omega)];omega
   have hB8:IntKind.wrap .u8 (B:Int)=B:=ziT (by omega) (by omega)
   have hB64:IntKind.wrap .u64 (B:Int)=B:=zey (by omega) (by omega)
   have hmul:n*B≤2147483647*16:=Nat.mul_le_mul hn hB.2
   have hmulw:IntKind.wrap .u64 ((n:Int)*(B:Int))=((n*B:Nat):Int):=by
    rw [← Int.natCast_mul]
    exact zey (by omega) (by omega)
   have hCn:¬ C≤(n:Int):=by omega
   have hlow:=low_lt b
   have hbl:=b.toNat_lt
   have fin:∀ d:Nat,d<256→zjF b=some d→∀ (q:Int),q=d→
    (cond (decide ((B:Int)≤q)) (some (1,[Value.int .u64 0,.iface 181 (.int .i64 2)],st)) (
     cond (decide (C≤(n:Int))) (some (1,[.int .u64 2147483647,.iface 181 (.int .i64 1)],st)) (
      cond (decide (IntKind.wrap .u64 (((n*B:Nat):Int)+IntKind.wrap .u64 q)<((n*B:Nat):Int))) (some (1,[.int .u64 2147483647,.iface 181 (.int .i64 1)],st)) (
       cond (decide (2147483647<IntKind.wrap .u64 (((n*B:Nat):Int)+IntKind.wrap .u64 q))) (some (1,[.int .u64 2147483647,.iface 181 (.int .i64 1)],st)) (
        zhd 36 [.int .i64 B,.bool false,.string s0,.int .u64 C,.int .u64 2147483647,.bool false,.int .u64 (IntKind.wrap .u64 (((n*B:Nat):Int)+IntKind.wrap .u64 q)),.slice (some ⟨i,0,none⟩) s.size cap,.int .i64 s.size,.int .i64 ((p+1:Nat):Int)] st)))))=some (puR (zb6 B n (b::r)) s0 st):=by
    intro d hd hv q hq
    subst hq
    have hw1:IntKind.wrap .u64 (d:Int)=d:=zey (by omega) (by omega)
    have hw2:IntKind.wrap .u64 (((n*B:Nat):Int)+(d:Int))=((n*B+d:Nat):Int):=by
     rw [← Int.natCast_add]
     exact zey (by omega) (by omega)
    have hnl:¬ (((n*B+d:Nat):Int)<((n*B:Nat):Int)):=by omega
    rw [hw1,hw2,zdf hCn,zdf hnl]
    unfold zb6
    rw [hv]
    by_cases h1:B≤d
    ·have h1':(B:Int)≤(d:Int):=by omega
     simp [h1,puR]
    ·have h1':¬ (B:Int)≤(d:Int):=by omega
     rw [zdf h1']
     simp only [zcf,h1,if_false]
     by_cases h2:2147483647<n*B+d
     ·have h2':(2147483647:Int)<((n*B+d:Nat):Int):=by omega
      rw [zdt h2',if_pos h2]
      rfl
     ·have h2':¬ (2147483647:Int)<((n*B+d:Nat):Int):=by omega
      rw [zdf h2',if_neg h2]
      exact ih (p+1) (n*B+d) hr (by omega) (by omega)
   refine zl4 _ _ _ _ _ _ _ _ _ st ?_
   by_cases hdig:48≤b.toNat∧b.toNat≤57
   ·have h1:(48:Int)≤(b.toNat:Int):=by omega
    have h2:(b.toNat:Int)≤57:=by omega
    have h3:¬ (b.toNat:Int)=95:=by omega
    have hw:IntKind.wrap .u8 ((b.toNat:Int)-48)=((b.toNat-48:Nat):Int):=by rw [ziT (by omega) (by omega)];omega
    have:=fin (b.toNat-48) (by omega) (by unfold zjF;rw [if_pos hdig]) _ rfl
    simp only [zdH,zdt hlt',zct,hel,zob,hld,zdf h3,zcf,zdt h1,zdt h2,hw,hB8,hB64,hmulw,hwp]
    exact this
   ·have hlo:=zvT b st
    have h4857:decide ((48:Int)≤(b.toNat:Int))=false∨(decide ((48:Int)≤(b.toNat:Int))=true∧decide ((b.toNat:Int)≤57)=false):=by
     by_cases h:(48:Int)≤(b.toNat:Int)
     ·exact .inr ⟨zdt h,zdf (by omega)⟩
     ·exact .inl (zdf h)
    by_cases h1:97≤zd5 b
    ·have h1':(97:Int)≤(zd5 b:Int):=by omega
     have hw1:IntKind.wrap .u8 ((zd5 b:Int)-97)=((zd5 b-97:Nat):Int):=by rw [ziT (by omega) (by omega)];omega
     by_cases h2:zd5 b≤122
     ·have h2':(zd5 b:Int)≤122:=by omega
      have hw2:IntKind.wrap .u8 (((zd5 b-97:Nat):Int)+10)=((zd5 b-87:Nat):Int):=by rw [ziT (by omega) (by omega)];omega
      have:=fin (zd5 b-87) (by omega) (by unfold zjF;rw [if_neg hdig,if_pos ⟨h1,h2⟩]) _ rfl
      rcases h4857 with h48 | ⟨h48,h57⟩
      ·cases h95:decide ((b.toNat:Int)=95)
       all_goals
        simp only [zdH,zdt hlt',zct,hel,zob,hld,h95,zcf,h48,hlo,zaa,zdt h1',zdt h2',hw1,hw2,hB8,hB64,hmulw,hwp]
        exact this
      ·cases h95:decide ((b.toNat:Int)=95)
       all_goals
        simp only [zdH,zdt hlt',zct,hel,zob,hld,h95,zcf,h48,h57,hlo,zaa,zdt h1',zdt h2',hw1,hw2,hB8,hB64,hmulw,hwp]
        exact this
     ·have h2':¬ (zd5 b:Int)≤122:=by omega
      have hv:zjF b=none:=by unfold zjF;rw [if_neg hdig,if_neg (by omega)]
      have e:zb6 B n (b::r)=none:=by unfold zb6;rw [hv]
      rw [e]
      rcases h4857 with h48 | ⟨h48,h57⟩
      ·cases h95:decide ((b.toNat:Int)=95)
       all_goals
        simp only [zdH,zdt hlt',zct,hel,zob,hld,h95,zcf,h48,hlo,zaa,zdt h1',zdf h2',puR]
      ·cases h95:decide ((b.toNat:Int)=95)
       all_goals
        simp only [zdH,zdt hlt',zct,hel,zob,hld,h95,zcf,h48,h57,hlo,zaa,zdt h1',zdf h2',puR]
    ·have h1':¬ (97:Int)≤(zd5 b:Int):=by omega
     have hv:zjF b=none:=by unfold zjF;rw [if_neg hdig,if_neg (by omega)]
     have e:zb6 B n (b::r)=none:=by unfold zb6;rw [hv]
     rw [e]
     rcases h4857 with h48 | ⟨h48,h57⟩
     ·cases h95:decide ((b.toNat:Int)=95)
      all_goals
       simp only [zdH,zdt hlt',zct,hel,zob,hld,h95,zcf,h48,hlo,zaa,zdf h1',puR]
     ·cases h95:decide ((b.toNat:Int)=95)
      all_goals
       simp only [zdH,zdt hlt',zct,hel,zob,hld,h95,zcf,h48,h57,hlo,zaa,zdf h1',puR]
def za8 (B:Nat) (l:List UInt8):Option (Option Nat):=if l=[] then none else zb6 B 0 l
def puV (x:Option (Option Nat)):Int×Option Nat:=match x with
 | none=>(0,some 4)
 | some none=>(2147483647,some 5)
 | some (some m)=>(m,none)
def zf4 (x:Option (Option Nat)):Int×Bool:=((puV x).1,(puV x).2.isNone)
def puE (x:Option (Option Nat)):Value:=match x with
 | none=>.iface 181 (.int .i64 2)
 | some none=>.iface 181 (.int .i64 1)
 | some (some m)=>.nilIface
theorem zh9 (s:ByteArray):eqT s ⟨#[]⟩=decide (bl s=[]):=rfl
theorem zxa [Sym] (s:ByteArray) (hs:s.size≤4294967296) (st:SS):∃ st',cc 107 [.string s,.int .i64 10,.int .i64 31] st=some (.tuple #[.int .u64 (puV (za8 10 (bl s))).1,puE (za8 10 (bl s))],st')∧Ext st st':=by
 have hsh:IntKind.wrap .u64 (zkv .u64 1 31-1)=2147483647:=by decide
 by_cases h0:bl s=[]
 ·refine ⟨st,zr2 s st ?_,.refl _⟩
  simp [pu10,zh9,h0,za8,puV,puE]
 ·refine ⟨st.new (.cells (s.data.toList.map fun b=>.int .u8 b.toNat) 1),zr2 s st ?_,(Ext.refl st).new _⟩
  have:=zr6 s s 10 (by omega) 1844674407370955162 (by omega) st.next s.size (st.new (.cells (s.data.toList.map fun b=>.int .u8 b.toNat) 1)) hs (by simp) (bl s) 0 0 rfl (by omega) (by omega)
  have this':zhd 36 [.int .i64 10,.bool false,.string s,.int .u64 1844674407370955162,.int .u64 2147483647,.bool false,.int .u64 0,.slice (some ⟨st.next,0,none⟩) s.size s.size,.int .i64 ((s.size:Nat):Int),.int .i64 0] (st.new (.cells (s.data.toList.map fun b=>.int .u8 b.toNat) 1))=_:=this
  simp only [pu10,zh9,zdf h0,zcf,hsh,this',zob,za8,if_neg h0]
  rcases zb6 10 0 (bl s) with _ | _ | m<;>simp [puR,puV,puE]
theorem zxb [Sym] (s:ByteArray) (hs:s.size≤4294967296) (st:SS):∃ st',cc 107 [.string s,.int .i64 16,.int .i64 31] st=some (.tuple #[.int .u64 (puV (za8 16 (bl s))).1,puE (za8 16 (bl s))],st')∧Ext st st':=by
 have hsh:IntKind.wrap .u64 (zkv .u64 1 31-1)=2147483647:=by decide
 by_cases h0:bl s=[]
 ·refine ⟨st,zr5 s st ?_,.refl _⟩
  simp [pu16,zh9,h0,za8,puV,puE]
 ·refine ⟨st.new (.cells (s.data.toList.map fun b=>.int .u8 b.toNat) 1),zr5 s st ?_,(Ext.refl st).new _⟩
  have:=zr6 s s 16 (by omega) 1152921504606846976 (by omega) st.next s.size (st.new (.cells (s.data.toList.map fun b=>.int .u8 b.toNat) 1)) hs (by simp) (bl s) 0 0 rfl (by omega) (by omega)
  have this':zr4 36 [.int .i64 16,.bool false,.string s,.int .u64 1152921504606846976,.int .u64 2147483647,.bool false,.int .u64 0,.slice (some ⟨st.next,0,none⟩) s.size s.size,.int .i64 ((s.size:Nat):Int),.int .i64 0] (st.new (.cells (s.data.toList.map fun b=>.int .u8 b.toNat) 1))=_:=this
  simp only [pu16,zh9,zdf h0,zcf,hsh,this',zob,za8,if_neg h0]
  rcases zb6 16 0 (bl s) with _ | _ | m<;>simp [puR,puV,puE]
theorem zvU [Sym] {st:SS} (hg:Gd st) (fn s:ByteArray) (hs:s.size≤4294967296) (base bits:Int) (x:Option (Option Nat)) (hx:(puV x).2.isNone=false):
  cc 108 [.string fn,.string s,.int .i64 base,.int .i64 bits,puE x] st=some (.iface 184 (.pointer (some ⟨st.next,0,none⟩)),st.adv (st.next+1)):=by
 have hq:Nat.ble s.size 281474976710656=true:=by rw [Nat.ble_eq];omega
 have hn:=hg.nx
 rcases x with _ | _ | m
 ·have h:=zpe (P:=Tryz.prog) (L:=Lk0) (f:=108) (args:=[.string fn,.string s,.int .i64 base,.int .i64 bits,.iface 181 (.int .i64 2)]) (st:=st) (c:=zeX st.next 5) (by rfl)
   (by show zmA 108 [.string fn,.string s,.int .i64 base,.int .i64 bits,.iface 181 (.int .i64 2)] st.next=_;simp [zmA, -zqr,hq]) (by
    have h4:Nat.blt 5 st.next=true:=by rw [Nat.blt_eq];omega
    have hgl:Lk0.glob 5=true:=rfl
    simp [zeX,hg.g4,zft,zjd,h4,hgl])
  exact h
 ·have h:=zpe (P:=Tryz.prog) (L:=Lk0) (f:=108) (args:=[.string fn,.string s,.int .i64 base,.int .i64 bits,.iface 181 (.int .i64 1)]) (st:=st) (c:=zeX st.next 6) (by rfl)
   (by show zmA 108 [.string fn,.string s,.int .i64 base,.int .i64 bits,.iface 181 (.int .i64 1)] st.next=_;simp [zmA, -zqr,hq]) (by
    have h4:Nat.blt 6 st.next=true:=by rw [Nat.blt_eq];omega
    have hgl:Lk0.glob 6=true:=rfl
    simp [zeX,hg.g5,zft,zjd,h4,hgl])
  exact h
 ·cases hx
theorem zkP [Sym] {st:SS} (hg:Gd st) (s:ByteArray) (hs:s.size≤4294967296) (base:Int) (B:Nat) (hb:(base=10∧B=10)∨(base=16∧B=16)):
  ∃ e st',cc 93 [.string s,.int .i64 base,.int .i64 31] st=some (.tuple #[.int .u64 (puV (za8 B (bl s))).1,e],st')∧zfv e=some (puV (za8 B (bl s))).2.isNone∧Ext st st':=by
 have h:∃ st',cc 107 [.string s,.int .i64 base,.int .i64 31] st=some (.tuple #[.int .u64 (puV (za8 B (bl s))).1,puE (za8 B (bl s))],st')∧Ext st st':=by
  rcases hb with ⟨rfl,rfl⟩ | ⟨rfl,rfl⟩
  ·exact zxa s hs st
  ·exact zxb s hs st
 obtain ⟨st',h1,h2⟩:=h
 have hE:zfv (puE (za8 B (bl s)))=some (puV (za8 B (bl s))).2.isNone:=by
  rcases za8 B (bl s) with _ | _ | m<;>rfl
 cases hx:(puV (za8 B (bl s))).2.isNone with
 | true=>
   refine ⟨.nilIface,st',zfy s _ _ st ?_,rfl,h2⟩
   rw [hx] at hE
   simp [zeQ,h1,zan,hE]
 | false=>
   refine ⟨.iface 184 (.pointer (some ⟨st'.next,0,none⟩)),st'.adv (st'.next+1),zfy s _ _ st ?_,rfl,h2.adv (Nat.le_succ _)⟩
   rw [hx] at hE
   simp [zeQ,h1,zan,hE,zvU (hg.ext h2) _ s hs _ _ _ hx]
def hexP (l:List UInt8):Bool:=[48,120].isPrefixOf l
def zdI (l:List UInt8):Option (Option Nat):=if hexP l then za8 16 (l.drop 2) else za8 10 l
theorem zqy {B n m:Nat} {l:List UInt8} (h:zb6 B n l=some (some m)):Lib.indexByte l 95= -1:=by
 induction l generalizing n with
 | nil=>rfl
 | cons b r ih=>
   unfold zb6 at h
   split at h
   ·cases h
   ·rename_i d hd
    split at h
    ·cases h
    ·split at h
     ·cases h
     ·have hb:b≠95:=by
       rintro rfl
       have:zjF 95=none:=by decide
       rw [this] at hd;cases hd
      simp [Lib.indexByte,hb,ih h]
theorem zpi {B:Nat} {l:List UInt8} (h:(puV (za8 B l)).2.isNone=true):Lib.indexByte l 95= -1:=by
 unfold za8 at h
 split at h
 ·cases h
 ·cases hp:zb6 B 0 l with
  | none=>rw [hp] at h;cases h
  | some x=>cases x with
    | none=>rw [hp] at h;cases h
    | some m=>exact zqy hp
theorem zgr {B:Nat} {l:List UInt8}:0≤(puV (za8 B l)).1∧(puV (za8 B l)).1≤2147483647:=by
 have:∀ (l:List UInt8) (n m:Nat),n≤2147483647→zb6 B n l=some (some m)→m≤2147483647:=by
  intro l
  induction l with
  | nil=>intro n m hn h;cases h;exact hn
  | cons b r ih=>
    intro n m hn h
    unfold zb6 at h
    split at h
    ·cases h
    ·split at h
     ·cases h
     ·split at h
      ·cases h
      ·exact ih _ _ (by omega) h
 unfold za8
 split
 ·simp [puV]
 ·cases hp:zb6 B 0 l with
  | none=>simp [puV]
  | some x=>cases x with
    | none=>simp [puV]
    | some m=>have:=this l 0 m (by omega) hp;simp only [puV];omega
theorem zuh [Sym] {st:SS} (hg:Gd st) (s:ByteArray) (hs:s.size≤4294967296):∃ n,st.next≤n∧cc 69 [.string s] st=some (.tuple #[.int .i64 (zf4 (zdI (bl s))).1,.bool (zf4 (zdI (bl s))).2],st.adv n):=by
 have hcut:=zqx s ⟨#[48,120]⟩ (st.ro st.next)
 have hp:(bl (⟨#[48,120]⟩:ByteArray))=[48,120]:=rfl
 have hsz:(⟨#[48,120]⟩:ByteArray).size=2:=rfl
 rw [hp,hsz] at hcut
 cases hh:hexP (bl s) with
 | true=>
   have hh':=hh
   unfold hexP at hh'
   rw [hh'] at hcut
   obtain ⟨e,st',h1,h2,h3⟩:=zkP (st:=st.ro st.next) (hg.ro) (mkS ((bl s).drop 2)) (by simp;omega) 16 16 (.inr ⟨rfl,rfl⟩)
   rw [zbI] at h1 h2
   refine ⟨st'.next,h3.next,ziV s st ?_⟩
   have hw:=wrap64 (n:=(puV (za8 16 ((bl s).drop 2))).1) (by have:=zgr (B:=16) (l:=(bl s).drop 2);omega) (by have:=zgr (B:=16) (l:=(bl s).drop 2);omega)
   have hi:=zhy 95 (mkS ((bl s).drop 2)) st'
   cases hx:(puV (za8 16 ((bl s).drop 2))).2.isNone with
   | true=>
     rw [hx] at h2
     have hu:=zpi hx
     have hi':cc 70 [.string (mkS ((bl s).drop 2)),.int .u8 95] st'=_:=hi
     rw [zbI,hu] at hi'
     simp [ze0,hcut,zan,h1,h2,hw,zdI,hh,zf4,hx,hi']
   | false=>
     rw [hx] at h2
     simp [ze0,hcut,zan,h1,h2,hw,zdI,hh,zf4,hx]
 | false=>
   have hh':=hh
   unfold hexP at hh'
   rw [hh'] at hcut
   obtain ⟨e,st',h1,h2,h3⟩:=zkP (st:=st.ro st.next) (hg.ro) s hs 10 10 (.inl ⟨rfl,rfl⟩)
   refine ⟨st'.next,h3.next,ziV s st ?_⟩
   have hw:=wrap64 (n:=(puV (za8 10 (bl s))).1) (by have:=zgr (B:=10) (l:=bl s);omega) (by have:=zgr (B:=10) (l:=bl s);omega)
   have hi:=zhy 95 s st'
   cases hx:(puV (za8 10 (bl s))).2.isNone with
   | true=>
     rw [hx] at h2
     have hu:=zpi hx
     have hi':cc 70 [.string s,.int .u8 95] st'=_:=hi
     rw [hu] at hi'
     simp [ze0,hcut,zan,h1,h2,hw,zdI,hh,zf4,hx,hi']
   | false=>
     rw [hx] at h2
     simp [ze0,hcut,zan,h1,h2,hw,zdI,hh,zf4,hx]
end Go.Proofs.YtcplfckncandkaaGreatDoorE
namespace Go.Proofs.YtcplfckncandkaaGreatDoorE
open Go Go.E Go.Proofs
structure Tok where
 kd:Nat
 tx:List UInt8
 nm:Int
 col:Nat
def za6 (at':Int) (t:Tok):List Value:=[.int .i64 t.kd,.string (mkS t.tx),.int .i64 t.nm,.int .i64 at',.int .i64 t.col]
def zcc (at':Int):List Tok→List Value
 | []=>[]
 | t::r=>za6 at' t++zcc at' r
theorem zkQ (at':Int) (a b:List Tok):zcc at' (a++b)=zcc at' a++zcc at' b:=by
 induction a with
 | nil=>rfl
 | cons t r ih=>simp [zcc,ih]
theorem zui (at':Int) (a:List Tok):(zcc at' a).all one=true:=by
 induction a with
 | nil=>rfl
 | cons t r ih=>simp [zcc,ih,za6,one]
inductive Stp where
 | stop | blank | bad
 | tok (kd n:Nat) (x:Int)
def numO (x:Option (Option Nat)):Option Nat:=x.getD none
def zp1 (c:UInt8):Bool:=decide (0≤Lib.indexByte [58,61,46,43,45] c)
def stepT:List UInt8→Stp
 | []=>.stop
 | c::r=>if (c.toNat:Int)=59 then .stop
   else if (c.toNat:Int)=32∨(c.toNat:Int)=9∨(c.toNat:Int)=13 then .blank
   else if zdY c.toNat=true then (if 24<zaP (c::r) then .bad else .tok 1 (zaP (c::r)) 0)
   else if zfx c.toNat=true then (match numO (zdI ((c::r).take (zaP (c::r)))) with
    | some m=>.tok 2 (zaP (c::r)) m
    | none=>.bad)
   else if zp1 c=true then .tok 3 1 0 else .bad
def zsM (t:Tok):Except Nat (List Tok)→Except Nat (List Tok)
 | .ok ts=>.ok (t::ts)
 | .error e=>.error e
def zd6:Nat→Nat→List UInt8→Except Nat (List Tok)
 | 0,_,_=>.ok []
 | k+1,col,l=>match stepT l with
   | .stop=>.ok []
   | .blank=>zd6 k (col+1) (l.drop 1)
   | .tok kd n x=>zsM ⟨kd,l.take n,x,col+1⟩ (zd6 k (col+n) (l.drop n))
   | .bad=>.error (col+1)
structure TK (st stX:SS) (row:List Value):Prop where
 mem:stX.mem.get st.next=some (.cells row 0)
 ext:Ext st stX
 lt:st.next<stX.next
theorem TK.new {st:SS} {r row:List Value} (hl:st.lim≤st.next) (h1:row.all one=true) (hr:r.length=row.length):∃ stX,(st.new (.cells r 0)).st st.next 0 row=some stX∧TK st stX row:=by
 refine ⟨_,SS.st_cells SS.new_get hl h1 (c':=row) ?_,?_,?_,?_⟩
 ·rw [zbu (by omega)]
  simp [hr]
 ·simp
 ·exact ((Ext.refl st).new _).set (zlr _) _
 ·simp
theorem TK.st {st stX:SS} {row row' vs:List Value} {k:Nat} (h:TK st stX row) (hl:st.lim≤st.next) (h1:vs.all one=true) (hs:zcK row k vs=some row'):∃ stY,stX.st st.next k vs=some stY∧TK st stY row'∧stY.next=stX.next:=
 ⟨_,SS.st_cells h.mem (by rw [h.ext.lim];exact hl) h1 hs,⟨by simp,h.ext.set (zlr _) _,h.lt⟩,rfl⟩
theorem TK.adv {st stX:SS} {row:List Value} {n:Nat} (h:TK st stX row) (hn:stX.next≤n):TK st (stX.adv n) row:=
 ⟨h.mem,h.ext.adv hn,zll h.lt hn⟩
theorem TK.ld {st stX:SS} {row:List Value} {k:Nat} (h:TK st stX row):stX.ld st.next k=row[k]?:=SS.ld_cells h.mem
theorem TK.ldN {st stX:SS} {row:List Value} {n:Nat} (h:TK st stX row) (hn:row.length=n):stX.ldN st.next 0 n=some (.agg row.toArray):=by
 rw [SS.ldN_cells h.mem,zf1 hn];rfl
theorem zjG {row:List Value} {n:Nat} (hn:row.length=n):zaW (.agg row.toArray) n=some row:=by
 unfold zaW
 have:(Value.agg row.toArray).cells=row.toArray:=rfl
 rw [this]
 simp [hn]
theorem cells5 (a b c d e:Value):zaW (.agg [a,b,c,d,e].toArray) 5=some [a,b,c,d,e]:=rfl
theorem own_ne {b:Nat} {st:SS} {v:Value} {c:List Value} {z n j:Nat} (h:Own b st v c z n) (hj:st.next≤j):∀ q,v≠.slice (some ⟨j,0,none⟩) q q:=by
 obtain ⟨_,⟨rfl,_⟩ | ⟨i,rfl,_,_,_,hi⟩⟩:=h
 ·intro q h;cases h
 ·intro q h;cases h;omega
theorem TK.app {st0 st stX:SS} {row c:List Value} {out:Value} {n z bt:Nat} (h:TK st stX row) (he:Ext st0 st) (ho:Own st0.next st out c z n) (hr:row.length=z) (hz:0<z) (hl:st0.lim≤st0.next) (h1:row.all one=true) (hs:(n+2)*bt≤2^44) (hn:n+1≤2^44):
  ∃ v st',(stX.new (.cells row z)).app z bt out (.slice (some ⟨stX.next,0,none⟩) 1 1)=some (v,st')∧Ext st0 st'∧Own st0.next st' v (c++row) z (n+1)∧st'.mem.get st.next=some (.cells row 0):=by
 have e1:Ext st (stX.new (.cells row z)):=h.ext.new _
 have e0:Ext st0 (stX.new (.cells row z)):=he.trans e1
 obtain ⟨v,st',g1,g2,g3,g4,g5,g6⟩:=(ho.ext e1).app (Rd.new1 (st:=stX) hr) e0.next (by rw [e0.lim];exact hl) hz h1 (bt:=bt) (by simpa [Nat.add_assoc] using hs) hn
 refine ⟨v,st',g1,g5 st0 (zlr _) e0,g2,?_⟩
 rw [g6 st.next (by simp;have:=h.lt;omega) (own_ne ho (zlr _)),SS.new_old (by have:=h.lt;omega)]
 exact h.mem
theorem zow (l:List UInt8):zaP l≤l.length:=by
 unfold zaP
 exact (List.takeWhile_sublist _).length_le
theorem zjH {c:UInt8} {r:List UInt8} (h:nameB c=true):0<zaP (c::r):=by rw [zh8,if_pos h];omega
theorem zjI {s:ByteArray} {col n:Nat} (h:col+n≤s.size):zci s (col:Int) ((col+n:Nat):Int)=some (mkS (((bl s).drop col).take n)):=by
 rw [zgq (by omega) (by omega) (by omega),zdZ]
 simp only [Int.toNat_natCast]
 rw [List.drop_take,Nat.add_sub_cancel_left]
theorem zpk {s:ByteArray} {col:Nat} (h:col≤s.size):zci s (col:Int) (s.size:Int)=some (mkS ((bl s).drop col)):=by
 rw [zgq (by omega) (by omega) (by omega),zdZ]
 simp only [Int.toNat_natCast]
 rw [List.take_of_length_le (by simp)]
def zeA (errv:Nat→List Value) (s:ByteArray) (at':Int) (st0:SS) (done:List Tok) (r:Option (Nat×List Value×SS)):Except Nat (List Tok)→Prop
 | .ok ts=>∃ v st',r=some (0,[.string s,.int .i64 at',v],st')∧Ext st0 st'∧Own st0.next st' v (zcc at' (done++ts)) 5 (done++ts).length∧(done++ts).length≤s.size
 | .error c=>∃ st',r=some (1,errv c,st')∧Ext st0 st'
theorem zeA.to {errv:Nat→List Value} {s:ByteArray} {at':Int} {st0:SS} {done:List Tok} {r r':Option (Nat×List Value×SS)} {x:Except Nat (List Tok)} (h:zeA errv s at' st0 done r x) (hr:∀ y,r=some y→r'=some y):zeA errv s at' st0 done r' x:=by
 cases x with
 | ok ts=>obtain ⟨v,st',a,b⟩:=h;exact ⟨v,st',hr _ a,b⟩
 | error c=>obtain ⟨st',a,b⟩:=h;exact ⟨st',hr _ a,b⟩
theorem zeA.cons {errv:Nat→List Value} {s:ByteArray} {at':Int} {st0:SS} {done:List Tok} {t:Tok} {r:Option (Nat×List Value×SS)} {x:Except Nat (List Tok)} (h:zeA errv s at' st0 (done++[t]) r x):zeA errv s at' st0 done r (zsM t x):=by
 cases x with
 | ok ts=>
   have e:done++[t]++ts=done++t::ts:=by simp
   obtain ⟨v,st',a,b,c,d⟩:=h
   rw [e] at c d
   exact ⟨v,st',a,b,c,d⟩
 | error c=>exact h
theorem zeA.tok {errv:Nat→List Value} {s:ByteArray} {at':Int} {st0 st stY:SS} {done:List Tok} {out:Value} {kd n col k:Nat} {x:Int} {lf:zab} (hs:s.size≤4294967296) (hl0:st0.lim≤st0.next) (hd:done.length≤col) (he:Ext st0 st) (ho:Own st0.next st out (zcc at' done) 5 done.length) (hn0:0<n) (hn:col+n≤s.size)
  (tk:TK st stY [.int .i64 kd,.string (mkS (((bl s).drop col).take n)),.int .i64 x,.int .i64 at',.int .i64 ((col+1:Nat):Int)])
  (ih:∀ (done:List Tok) (out:Value) (st:SS),done.length≤col+n→Ext st0 st→Own st0.next st out (zcc at' done) 5 done.length→zeA errv s at' st0 done (lf 3 [.string s,.int .i64 at',out,.int .i64 ((col+n:Nat):Int)] st) (zd6 k (col+n) ((bl s).drop (col+n))))
  (step:∀ v stZ,(stY.new (.cells [.int .i64 kd,.string (mkS (((bl s).drop col).take n)),.int .i64 x,.int .i64 at',.int .i64 ((col+1:Nat):Int)] 5)).app 5 48 out (.slice (some ⟨stY.next,0,none⟩) 1 1)=some (v,stZ)→stZ.mem.get st.next=some (.cells [.int .i64 kd,.string (mkS (((bl s).drop col).take n)),.int .i64 x,.int .i64 at',.int .i64 ((col+1:Nat):Int)] 0)→
      ∀ y,lf 3 [.string s,.int .i64 at',v,.int .i64 ((col+n:Nat):Int)] stZ=some y→lf 3 [.string s,.int .i64 at',out,.int .i64 col] st=some y):
  zeA errv s at' st0 done (lf 3 [.string s,.int .i64 at',out,.int .i64 col] st) (zsM ⟨kd,((bl s).drop col).take n,x,col+1⟩ (zd6 k (col+n) (((bl s).drop col).drop n))):=by
 obtain ⟨v,stZ,b1,b2,b3,b4⟩:=tk.app he ho rfl (by omega) hl0 (by rfl) (bt:=48) (by omega) (by omega)
 have hrow:zcc at' done++[.int .i64 kd,.string (mkS (((bl s).drop col).take n)),.int .i64 x,.int .i64 at',.int .i64 ((col+1:Nat):Int)]=zcc at' (done++[⟨kd,((bl s).drop col).take n,x,col+1⟩]):=by
  rw [zkQ];rfl
 have hlen:done.length+1=(done++[(⟨kd,((bl s).drop col).take n,x,col+1⟩:Tok)]).length:=by simp
 rw [hrow,hlen] at b3
 rw [List.drop_drop]
 exact ((ih _ v stZ (by simp;omega) b2 b3).cons).to (step v stZ b1 b4)
theorem zvV {L r:List UInt8} {c:UInt8} (h:L=c::r):stepT L=if (c.toNat:Int)=59 then .stop
  else if (c.toNat:Int)=32∨(c.toNat:Int)=9∨(c.toNat:Int)=13 then .blank
  else if zdY c.toNat=true then (if 24<zaP L then .bad else .tok 1 (zaP L) 0)
  else if zfx c.toNat=true then (match numO (zdI (L.take (zaP L))) with
   | some m=>.tok 2 (zaP L) m
   | none=>.bad)
  else if zp1 c=true then .tok 3 1 0 else .bad:=by subst h;rfl
theorem zuj [Sym] (s:ByteArray) (at':Int) (hs:s.size≤4294967296) (st0:SS) (hg:Gd st0) (hl0:st0.lim≤st0.next):∀ (k col:Nat) (done:List Tok) (out:Value) (st:SS),s.size≤k+col→col≤s.size→done.length≤col→Ext st0 st→Own st0.next st out (zcc at' done) 5 done.length→
  zeA (fun c=>[.slice none 0 0,.int .i64 c,.bool false]) s at' st0 done (zbv 3 [.string s,.int .i64 at',out,.int .i64 col] st) (zd6 k col ((bl s).drop col)):=by
 intro k
 induction k with
 | zero=>
   intro col done out st hk hc hd he ho
   have:col=s.size:=by omega
   subst this
   refine ⟨out,st,za7 s _ out _ st ?_,he,by simpa using ho,by simpa using hd⟩
   simp [zbw]
 | succ k ih=>
   intro col done out st hk hc hd he ho
   have hfin:∀ (stX:SS),zbv 3 [.string s,.int .i64 at',out,.int .i64 s.size] stX=some (0,[.string s,.int .i64 at',out],stX):=by
    intro stX
    refine za7 s _ out _ stX ?_
    simp [zbw]
   by_cases hlt:col<s.size
   ·obtain ⟨c,hb⟩:∃ c,(bl s)[col]?=some c:=⟨_,zge (by rw [zaQ];exact hlt)⟩
    have hdc:=drop_cons hb
    have hix:(zcB s (col:Int)).bind (asI .u8)=some (c.toNat:Int):=by
     obtain ⟨b',hb',hidx⟩:=zt9 (s:=s) (i:=(col:Int)) (by omega) (by omega)
     have:b'=c:=by simp at hb';rw [hb] at hb';cases hb';rfl
     subst this
     rw [hidx];simp
    have hlt':(col:Int)<(s.size:Int):=by omega
    have hw1:IntKind.wrap .i64 ((col:Int)+1)=((col+1:Nat):Int):=by rw [wrap64 (by omega) (by omega)];omega
    have hl:st.lim≤st.next:=by rw [he.lim];have:=he.next;omega
    obtain ⟨st3,e3,t3⟩:=TK.new (st:=st) (r:=[.int .i64 0,.string ⟨#[]⟩,.int .i64 0,.int .i64 0,.int .i64 0]) (row:=[.int .i64 0,.string ⟨#[]⟩,.int .i64 0,.int .i64 at',.int .i64 ((col+1:Nat):Int)]) hl (by rfl) rfl
    have he3:Ext st0 st3:=he.trans t3.ext
    have ho3:=ho.ext t3.ext
    have hL:=zvV hdc
    have hrl:zaP ((bl s).drop col)≤s.size-col:=by
     have:=zow ((bl s).drop col)
     simpa using this
    unfold zd6
    rw [hL]
    by_cases h59:(c.toNat:Int)=59
    ·rw [if_pos h59]
     refine ⟨out,st3,za7 s _ out _ st ?_,he3,by simpa using ho3,by simp;omega⟩
     simp only [zbw,zdt hlt',zct,hw1,e3,zob,hix,zdt h59]
     exact hfin st3
    rw [if_neg h59]
    by_cases hbk:(c.toNat:Int)=32∨(c.toNat:Int)=9∨(c.toNat:Int)=13
    ·rw [if_pos hbk]
     simp only [List.drop_drop]
     refine (ih (col+1) done out st3 (by omega) (by omega) (by omega) he3 ho3).to ?_
     intro r hr
     refine za7 s _ out _ st ?_
     simp only [zbw,zdt hlt',zct,hw1,e3,zob,hix,zdf h59,zcf]
     rcases hbk with h | h | h
     ·simp only [zdt h,zct,hr]
     ·have h':¬ (c.toNat:Int)=32:=by omega
      simp only [zdt h,zct,hr,zdf h',zcf]
     ·have h':¬ (c.toNat:Int)=32:=by omega
      have h'':¬ (c.toNat:Int)=9:=by omega
      simp only [zdt h,zct,hr,zdf h',zdf h'',zcf]
    rw [if_neg hbk]
    have h32:¬ (c.toNat:Int)=32:=fun h=>hbk (.inl h)
    have h9:¬ (c.toNat:Int)=9:=fun h=>hbk (.inr (.inl h))
    have h13:¬ (c.toNat:Int)=13:=fun h=>hbk (.inr (.inr h))
    have hsub:=zpk (s:=s) (col:=col) (by omega)
    have hlet:=zh7 (c.toNat:Int)
    have hdig:=digit_ok (c.toNat:Int)
    by_cases hlt1:zdY c.toNat=true
    ·rw [if_pos hlt1]
     have hpos:0<zaP ((bl s).drop col):=by rw [hdc];exact zjH (by unfold nameB;rw [hlt1];rfl)
     obtain ⟨m,hm,hrun⟩:=zgo (mkS ((bl s).drop col)) st3
     rw [zbI] at hrun
     have t4:=t3.adv hm
     obtain ⟨st5,e5,t5,n5⟩:=t4.st (k:=0) (vs:=[.int .i64 1]) (row':=[.int .i64 1,.string ⟨#[]⟩,.int .i64 0,.int .i64 at',.int .i64 ((col+1:Nat):Int)]) hl (by rfl) rfl
     obtain ⟨st6,e6,t6,n6⟩:=t5.st (k:=1) (vs:=[.string (mkS (((bl s).drop col).take (zaP ((bl s).drop col))))]) (row':=[.int .i64 1,.string (mkS (((bl s).drop col).take (zaP ((bl s).drop col)))),.int .i64 0,.int .i64 at',.int .i64 ((col+1:Nat):Int)]) hl (by rfl) rfl
     have hw2:IntKind.wrap .i64 ((col:Int)+(zaP ((bl s).drop col):Nat))=((col+zaP ((bl s).drop col):Nat):Int):=by rw [wrap64 (by omega) (by omega)];omega
     have hmid:=zjI (s:=s) (col:=col) (n:=zaP ((bl s).drop col)) (by omega)
     have hsz:(mkS (((bl s).drop col).take (zaP ((bl s).drop col)))).size=zaP ((bl s).drop col):=by simp;omega
     have common:zbw cc zbv s at' out col st=cond (decide ((24:Int)<(zaP ((bl s).drop col):Nat))) (some (1,[.slice none 0 0,.int .i64 ((col+1:Nat):Int),.bool false],st6))
       ((((st6.new (.cells [.int .i64 1,.string (mkS (((bl s).drop col).take (zaP ((bl s).drop col)))),.int .i64 0,.int .i64 at',.int .i64 ((col+1:Nat):Int)] 5)).app 5 48 out (.slice (some ⟨st6.next,0,none⟩) 1 1))).bind fun r24=>zbv 3 [.string s,.int .i64 at',r24.1,.int .i64 ((col+zaP ((bl s).drop col):Nat):Int)] r24.2):=by
      simp only [zbw,zdt hlt',zct,hw1,e3,zob,hix,zdf h59,zcf,zdf h32,zdf h9,zdf h13,hlet,hlt1,zai,hsub,hrun,zaa,hw2,hmid,e5,e6,t6.ld,t6.ldN (n:=5) rfl,zgs,zgz,zac,hsz,cells5,List.append_nil]
     by_cases h24:24<zaP ((bl s).drop col)
     ·rw [if_pos h24]
      refine ⟨st6,za7 s _ out _ st ?_,he.trans t6.ext⟩
      rw [common,zdt (by omega)]
      rfl
     ·rw [if_neg h24]
      refine zeA.tok hs hl0 hd he ho hpos (by omega) t6 (fun done out st hd he ho=>ih _ done out st (by omega) (by omega) hd he ho) ?_
      intro v stZ hv _ y hy
      refine za7 s _ out _ st ?_
      rw [common,zdf (by omega),zcf]
      have hv':((st6.new (.cells [.int .i64 1,.string (mkS (((bl s).drop col).take (zaP ((bl s).drop col)))),.int .i64 0,.int .i64 at',.int .i64 ((col+1:Nat):Int)] 5)).app 5 48 out (.slice (some ⟨st6.next,0,none⟩) 1 1))=some (v,stZ):=hv
      rw [hv']
      exact hy
    rw [if_neg hlt1]
    have hlt1':zdY c.toNat=false:=Bool.eq_false_iff.2 hlt1
    by_cases hd1:zfx c.toNat=true
    ·rw [if_pos hd1]
     have hpos:0<zaP ((bl s).drop col):=by rw [hdc];exact zjH (by unfold nameB;rw [hd1];simp)
     obtain ⟨m,hm,hrun⟩:=zgo (mkS ((bl s).drop col)) st3
     rw [zbI] at hrun
     have t4:=t3.adv hm
     obtain ⟨st5,e5,t5,n5⟩:=t4.st (k:=0) (vs:=[.int .i64 2]) (row':=[.int .i64 2,.string ⟨#[]⟩,.int .i64 0,.int .i64 at',.int .i64 ((col+1:Nat):Int)]) hl (by rfl) rfl
     obtain ⟨st6,e6,t6,n6⟩:=t5.st (k:=1) (vs:=[.string (mkS (((bl s).drop col).take (zaP ((bl s).drop col))))]) (row':=[.int .i64 2,.string (mkS (((bl s).drop col).take (zaP ((bl s).drop col)))),.int .i64 0,.int .i64 at',.int .i64 ((col+1:Nat):Int)]) hl (by rfl) rfl
     obtain ⟨m2,hm2,hnum⟩:=zuh (hg.ext (he.trans t6.ext)) (mkS (((bl s).drop col).take (zaP ((bl s).drop col)))) (by simp;omega)
     rw [zbI] at hnum
     have t7:=t6.adv hm2
     obtain ⟨st8,e8,t8,n8⟩:=t7.st (k:=2) (vs:=[.int .i64 (zf4 (zdI (((bl s).drop col).take (zaP ((bl s).drop col))))).1]) (row':=[.int .i64 2,.string (mkS (((bl s).drop col).take (zaP ((bl s).drop col)))),.int .i64 (zf4 (zdI (((bl s).drop col).take (zaP ((bl s).drop col))))).1,.int .i64 at',.int .i64 ((col+1:Nat):Int)]) hl (by rfl) rfl
     have hw2:IntKind.wrap .i64 ((col:Int)+(zaP ((bl s).drop col):Nat))=((col+zaP ((bl s).drop col):Nat):Int):=by rw [wrap64 (by omega) (by omega)];omega
     have hmid:=zjI (s:=s) (col:=col) (n:=zaP ((bl s).drop col)) (by omega)
     have hsz:(mkS (((bl s).drop col).take (zaP ((bl s).drop col)))).size=zaP ((bl s).drop col):=by simp;omega
     have common:zbw cc zbv s at' out col st=cond (!(zf4 (zdI (((bl s).drop col).take (zaP ((bl s).drop col))))).2) (some (1,[.slice none 0 0,.int .i64 ((col+1:Nat):Int),.bool false],st8))
       ((((st8.new (.cells [.int .i64 2,.string (mkS (((bl s).drop col).take (zaP ((bl s).drop col)))),.int .i64 (zf4 (zdI (((bl s).drop col).take (zaP ((bl s).drop col))))).1,.int .i64 at',.int .i64 ((col+1:Nat):Int)] 5)).app 5 48 out (.slice (some ⟨st8.next,0,none⟩) 1 1))).bind fun r24=>zbv 3 [.string s,.int .i64 at',r24.1,.int .i64 ((col+zaP ((bl s).drop col):Nat):Int)] r24.2):=by
      simp only [zbw,zdt hlt',zct,hw1,e3,zob,hix,zdf h59,zcf,zdf h32,zdf h9,zdf h13,hlet,hlt1',hdig,hd1,zai,hsub,hrun,zaa,hw2,hmid,e5,e6,t6.ld,hnum,zan,e8,t8.ld,t8.ldN (n:=5) rfl,zgs,zgz,zac,hsz,cells5,List.append_nil,List.getElem?_toArray]
     cases hx:zdI (((bl s).drop col).take (zaP ((bl s).drop col))) with
     | some y=>cases y with
       | some w=>
         have hx2:zf4 (zdI (((bl s).drop col).take (zaP ((bl s).drop col))))=((w:Int),true):=by rw [hx];rfl
         rw [hx2] at common t8
         simp only [numO,Option.getD_some]
         refine zeA.tok hs hl0 hd he ho hpos (by omega) t8 (fun done out st hd he ho=>ih _ done out st (by omega) (by omega) hd he ho) ?_
         intro v stZ hv _ y hy
         refine za7 s _ out _ st ?_
         rw [common,znt,zcf]
         have hv':((st8.new (.cells [.int .i64 2,.string (mkS (((bl s).drop col).take (zaP ((bl s).drop col)))),.int .i64 (w:Int),.int .i64 at',.int .i64 ((col+1:Nat):Int)] 5)).app 5 48 out (.slice (some ⟨st8.next,0,none⟩) 1 1))=some (v,stZ):=hv
         rw [hv']
         exact hy
       | none=>
         have hx2:(zf4 (zdI (((bl s).drop col).take (zaP ((bl s).drop col))))).2=false:=by rw [hx];rfl
         rw [hx2] at common
         refine ⟨st8,za7 s _ out _ st ?_,he.trans t8.ext⟩
         rw [common]
         rfl
     | none=>
       have hx2:(zf4 (zdI (((bl s).drop col).take (zaP ((bl s).drop col))))).2=false:=by rw [hx];rfl
       rw [hx2] at common
       refine ⟨st8,za7 s _ out _ st ?_,he.trans t8.ext⟩
       rw [common]
       rfl
    rw [if_neg hd1]
    have hd1':zfx c.toNat=false:=Bool.eq_false_iff.2 hd1
    have hsg:=zhy c ⟨#[58,61,46,43,45]⟩ st3
    by_cases hs1:zp1 c=true
    ·rw [if_pos hs1]
     have hs1':(0:Int)≤Lib.indexByte (bl ⟨#[58,61,46,43,45]⟩) c:=of_decide_eq_true hs1
     obtain ⟨st5,e5,t5,n5⟩:=t3.st (k:=0) (vs:=[.int .i64 3]) (row':=[.int .i64 3,.string ⟨#[]⟩,.int .i64 0,.int .i64 at',.int .i64 ((col+1:Nat):Int)]) hl (by rfl) rfl
     obtain ⟨st6,e6,t6,n6⟩:=t5.st (k:=1) (vs:=[.string (mkS (((bl s).drop col).take 1))]) (row':=[.int .i64 3,.string (mkS (((bl s).drop col).take 1)),.int .i64 0,.int .i64 at',.int .i64 ((col+1:Nat):Int)]) hl (by rfl) rfl
     have hmid:=zjI (s:=s) (col:=col) (n:=1) (by omega)
     have hsz:(mkS (((bl s).drop col).take 1)).size=1:=by simp;omega
     have hw2:IntKind.wrap .i64 ((col:Int)+((1:Nat):Int))=((col+1:Nat):Int):=hw1
     refine zeA.tok hs hl0 hd he ho (by omega) (by omega) t6 (fun done out st hd he ho=>ih _ done out st (by omega) (by omega) hd he ho) ?_
     intro v stZ hv _ y hy
     refine za7 s _ out _ st ?_
     have hv':((st6.new (.cells [.int .i64 3,.string (mkS (((bl s).drop col).take 1)),.int .i64 0,.int .i64 at',.int .i64 ((col+1:Nat):Int)] 5)).app 5 48 out (.slice (some ⟨st6.next,0,none⟩) 1 1))=some (v,stZ):=hv
     simp only [zbw,zdt hlt',zct,hw1,e3,zob,hix,zdf h59,zcf,zdf h32,zdf h9,zdf h13,hlet,hlt1',hdig,hd1',zai,hsg,zaa,zdt hs1',hmid,e5,e6,t6.ld,t6.ldN (n:=5) rfl,zgs,zgz,zac,hsz,hw2,cells5,List.append_nil,hv']
     exact hy
    ·rw [if_neg hs1]
     have hs1':¬ (0:Int)≤Lib.indexByte (bl ⟨#[58,61,46,43,45]⟩) c:=fun h=>hs1 (zdt h)
     refine ⟨st3,za7 s _ out _ st ?_,he3⟩
     simp only [zbw,zdt hlt',zct,hw1,e3,zob,hix,zdf h59,zcf,zdf h32,zdf h9,zdf h13,hlet,hlt1',hdig,hd1',zai,hsg,zaa,zdf hs1',t3.ld,zgs,zgz]
   ·have:col=s.size:=by omega
    subst this
    have hnil:(bl s).drop s.size=[]:=zl1 s
    rw [hnil]
    exact ⟨out,st,hfin st,he,by simpa [stepT] using ho,by simpa using hd⟩
end Go.Proofs.YtcplfckncandkaaGreatDoorE
namespace Go.Proofs.YtcplfckncandkaaGreatDoorE
open Go Go.E Go.Proofs
def zf5 (l:List UInt8):Tok:=⟨0,[],0,l.length+1⟩
def zcZ (l:List UInt8):Except Nat (List Tok):=match zd6 l.length 0 l with
 | .ok ts=>.ok (ts++[zf5 l])
 | .error c=>.error c
def LineR (okv:Value→List Value) (errv:Nat→List Value) (s:ByteArray) (at':Int) (st:SS) (r:Option (Value×SS)):Except Nat (List Tok)→Prop
 | .ok ts=>∃ v st',r=some (.tuple (okv v).toArray,st')∧Ext st st'∧Own st.next st' v (zcc at' ts) 5 ts.length∧ts.length≤s.size+1
 | .error c=>∃ st',r=some (.tuple (errv c).toArray,st')∧Ext st st'
theorem zxc {st st':SS} {v:Value} {at':Int} {ts:List Tok} (s:ByteArray) (hs:s.size≤4294967296) (hl:st.lim≤st.next) (he:Ext st st') (ho:Own st.next st' v (zcc at' ts) 5 ts.length) (hn:ts.length≤s.size):
  ∃ w st'',(st'.new (.cells [.int .i64 0,.string ⟨#[]⟩,.int .i64 0,.int .i64 at',.int .i64 ((s.size+1:Nat):Int)] 5)).app 5 48 v (.slice (some ⟨st'.next,0,none⟩) 1 1)=some (w,st'')∧Ext st st''∧
   Own st.next st'' w (zcc at' (ts++[zf5 (bl s)])) 5 (ts++[zf5 (bl s)]).length∧(ts++[zf5 (bl s)]).length≤s.size+1:=by
 have e0:Ext st (st'.new (.cells [.int .i64 0,.string ⟨#[]⟩,.int .i64 0,.int .i64 at',.int .i64 ((s.size+1:Nat):Int)] 5)):=he.new _
 obtain ⟨w,st'',g1,g2,g3,g4,g5,g6⟩:=(ho.ext ((Ext.refl st').new (.cells [.int .i64 0,.string ⟨#[]⟩,.int .i64 0,.int .i64 at',.int .i64 ((s.size+1:Nat):Int)] 5))).app (Rd.new1 (st:=st') rfl) e0.next (by rw [e0.lim];exact hl) (by omega) (by rfl) (bt:=48) (by omega) (by omega)
 refine ⟨w,st'',g1,g5 st (zlr _) e0,?_,by simp;omega⟩
 have e1:zcc at' (ts++[zf5 (bl s)])=zcc at' ts++[.int .i64 0,.string ⟨#[]⟩,.int .i64 0,.int .i64 at',.int .i64 ((s.size+1:Nat):Int)]:=by
  rw [zkQ]
  show _++(za6 at' (zf5 (bl s))++[])=_
  simp [za6,zf5,mkS]
 rw [e1,List.length_append]
 exact g2
theorem zxd [Sym] {st:SS} (hg:Gd st) (hl:st.lim≤st.next) (s:ByteArray) (hs:s.size≤4294967296) (at':Int):
  LineR (fun v=>[v,.int .i64 0,.bool true]) (fun c=>[.slice none 0 0,.int .i64 c,.bool false]) s at' st (cc 47 [.string s,.int .i64 at'] st) (zcZ (bl s)):=by
 have h:=zuj s at' hs st hg hl s.size 0 [] (.slice none 0 0) st (by omega) (by omega) (by simp) (.refl _) (Own.nil _ _ _)
 simp only [List.drop_zero] at h
 have hw:IntKind.wrap .i64 ((s.size:Int)+1)=((s.size+1:Nat):Int):=by rw [wrap64 (by omega) (by omega)];omega
 unfold zcZ
 rw [zaQ]
 cases hx:zd6 s.size 0 (bl s) with
 | ok ts=>
   rw [hx] at h
   obtain ⟨v,st',a,b,c,d⟩:=h
   obtain ⟨w,st'',e1,e2,e3,e4⟩:=zxc s hs hl b c d
   refine ⟨w,st'',zkM s at' st ?_,e2,e3,e4⟩
   have a':zbv 3 [.string s,.int .i64 at',.slice none 0 0,.int .i64 0] st=some (0,[.string s,.int .i64 at',v],st'):=a
   have hb0:Nat.beq 0 0=true:=rfl
   simp only [zkL,a',zob,hb0,zct,zgs,zgz,zac,zaa,hw,e1]
 | error c=>
   rw [hx] at h
   obtain ⟨st',a,b⟩:=h
   refine ⟨st',zkM s at' st ?_,b⟩
   have a':zbv 3 [.string s,.int .i64 at',.slice none 0 0,.int .i64 0] st=some (1,[.slice none 0 0,.int .i64 c,.bool false],st'):=a
   have hb0:Nat.beq 1 0=false:=rfl
   simp only [zkL,a',zob,hb0,zcf,zgs,zgz,zai,zaa]
end Go.Proofs.YtcplfckncandkaaGreatDoorE
namespace Go.Proofs.YtcplfckncandkaaGreatDoorE
open Go Go.E Go.Proofs
def rowsL:List (Nat×Tok)→List Value
 | []=>[]
 | t::r=>za6 t.1 t.2++rowsL r
theorem zqz (a b:List (Nat×Tok)):rowsL (a++b)=rowsL a++rowsL b:=by
 induction a with
 | nil=>rfl
 | cons t r ih=>simp [rowsL,ih]
theorem zuk (i:Nat) (ts:List Tok):rowsL (ts.map fun t=>(i,t))=zcc i ts:=by
 induction ts with
 | nil=>rfl
 | cons t r ih=>simp [rowsL,zcc,ih]
def zsN (a:List (Nat×Tok)):Except (Nat×Nat) (List (Nat×Tok))→Except (Nat×Nat) (List (Nat×Tok))
 | .ok us=>.ok (a++us)
 | .error e=>.error e
def zgk:Nat→List (List UInt8)→Except (Nat×Nat) (List (Nat×Tok))
 | _,[]=>.ok []
 | i,p::r=>match zcZ p with
   | .error c=>.error (i+1,c)
   | .ok ts=>zsN (ts.map fun t=>(i+1,t)) (zgk (i+1) r)
def lexT (l:List UInt8):Except (Nat×Nat) (List (Nat×Tok)):=zgk 0 (pieces 10 l)
theorem zjJ (c:UInt8) (l:List UInt8):∀ p∈pieces c l,p.length≤l.length:=by
 induction l with
 | nil=>simp [pieces]
 | cons b r ih=>
   unfold pieces
   split
   ·intro p hp
    simp only [List.mem_cons] at hp
    rcases hp with rfl | hp
    ·simp
    ·have:=ih p hp;simp;omega
   ·cases hr:pieces c r with
    | nil=>exact absurd hr (zfl c r)
    | cons x y=>
      intro p hp
      simp only [List.mem_cons] at hp
      rcases hp with rfl | hp
      ·have:=ih x (by rw [hr];simp);simp;omega
      ·have:=ih p (by rw [hr];simp [hp]);simp;omega
def zhz (errv:List Value) (j:Nat) (st0 st1:SS) (done:List (Nat×Tok)) (r:Option (Nat×List Value×SS)):Except (Nat×Nat) (List (Nat×Tok))→Prop
 | .ok us=>∃ v st',r=some (0,[ptr j 0,v],st')∧Ext st1 st'∧Own st1.next st' v (rowsL (done++us)) 5 (done++us).length
 | .error e=>∃ st',r=some (1,errv,st')∧st'.mem.get j=some (.cells [.int .i64 e.1,.int .i64 e.2] 0)∧Ext st0 st'
theorem zhz.to {errv:List Value} {j:Nat} {st0 st1:SS} {done:List (Nat×Tok)} {r r':Option (Nat×List Value×SS)} {x:Except (Nat×Nat) (List (Nat×Tok))} (h:zhz errv j st0 st1 done r x) (hr:∀ y,r=some y→r'=some y):zhz errv j st0 st1 done r' x:=by
 cases x with
 | ok ts=>obtain ⟨v,st',a,b⟩:=h;exact ⟨v,st',hr _ a,b⟩
 | error c=>obtain ⟨st',a,b⟩:=h;exact ⟨st',hr _ a,b⟩
theorem zhz.cons {errv:List Value} {j:Nat} {st0 st1:SS} {done a:List (Nat×Tok)} {r:Option (Nat×List Value×SS)} {x:Except (Nat×Nat) (List (Nat×Tok))} (h:zhz errv j st0 st1 (done++a) r x):zhz errv j st0 st1 done r (zsN a x):=by
 cases x with
 | ok ts=>
   have e:done++a++ts=done++(a++ts):=by simp
   obtain ⟨v,st',p,b,c⟩:=h
   rw [e] at c
   exact ⟨v,st',p,b,c⟩
 | error c=>exact h
theorem strs_get (ps:List (List UInt8)) (i:Nat) (p:List UInt8) (h:ps[i]?=some p):((strs ps).drop (i*1)).take 1=[.string (mkS p)]:=by
 rw [Nat.mul_one]
 have:(strs ps)[i]?=some (.string (mkS p)):=by simp [strs,h]
 rw [drop_cons this]
 rfl
theorem zhz.add {errv:List Value} {j:Nat} {st0 st1 st st':SS} {done:List (Nat×Tok)} {ts:List Tok} {i N:Nat} {out v:Value} {x:Except (Nat×Nat) (List (Nat×Tok))} {r':Option (Nat×List Value×SS)}
  (hN:N≤131073) (hl1:st1.lim≤st1.next) (hi:i<N) (hd:done.length≤i*N) (hts:ts.length≤N) (he:Ext st1 st) (ho:Own st1.next st out (rowsL done) 5 done.length) (he2:Ext st st') (ho2:Own st.next st' v (zcc ((i+1:Nat):Int) ts) 5 ts.length)
  (h:∀ w st'',st'.app 5 48 out v=some (w,st'')→Ext st1 st''→Own st1.next st'' w (rowsL (done++ts.map fun t=>(i+1,t))) 5 (done++ts.map fun t=>(i+1,t)).length→(done++ts.map fun t=>(i+1,t)).length≤(i+1)*N→zhz errv j st0 st1 (done++ts.map fun t=>(i+1,t)) r' x):
  zhz errv j st0 st1 done r' (zsN (ts.map fun t=>(i+1,t)) x):=by
 have hmul:i*N≤131073*131073:=Nat.mul_le_mul (by omega) hN
 have e0:Ext st1 st':=he.trans he2
 have hN2:(i+1)*N=i*N+N:=by rw [Nat.add_mul,Nat.one_mul]
 have hN3:i*N+N≤131073*131073:=by rw [← hN2];exact Nat.mul_le_mul (by omega) hN
 obtain ⟨w,st'',g1,g2,g3,g4,g5,g6⟩:=(ho.ext he2).app (ho2.rd) e0.next (by rw [e0.lim];exact hl1) (by omega) (zui _ _) (bt:=48) (by omega) (by omega)
 refine (h w st'' g1 (g5 st1 (zlr _) e0) ?_ ?_).cons
 ·rw [zqz,zuk,List.length_append,List.length_map]
  exact g2
 ·rw [List.length_append,List.length_map,hN2];omega
theorem zvW [Sym] (st0 st1:SS) (hg:Gd st1) (h01:Ext st0 st1) (hl1:st1.lim≤st1.next) (j:Nat) (hj0:st0.next≤j) (hj1:j<st1.next) (hjm:∃ r,st1.mem.get j=some (.cells r 0)∧r.length=2) (hjl:st1.lim≤j) (all:List (List UInt8)) (v:Value) (hv:Rd st1 v (strs all) 1 all.length) (N:Nat) (hN:N≤131073) (hall:all.length≤N) (hmem:∀ p∈all,p.length+1≤N):
  ∀ (ps:List (List UInt8)) (i:Nat) (done:List (Nat×Tok)) (out:Value) (st:SS),all.drop i=ps→i≤all.length→done.length≤i*N→Ext st1 st→Own st1.next st out (rowsL done) 5 done.length→
  zhz [.slice none 0 0,ptr j 0,.int .i64 4] j st0 st1 done (zd0 5 [ptr j 0,out,v,.int .i64 all.length,.int .i64 i] st) (zgk i ps):=by
 intro ps
 induction ps with
 | nil=>
   intro i done out st hp hi hd he ho
   have:i=all.length:=by
    rw [List.drop_eq_nil_iff] at hp;omega
   subst this
   refine ⟨out,st,zf3 _ out v _ _ st ?_,he,by simpa using ho⟩
   simp [zgj]
 | cons p r ih=>
   intro i done out st hp hi hd he ho
   have hgp:all[i]?=some p:=by
    have:=congrArg (·[0]?) hp
    simpa using this
   have hlt:i<all.length:=(List.getElem?_eq_some_iff.1 hgp).1
   have hpm:p∈all:=zmg hgp
   have hpl:=hmem p hpm
   have hr:all.drop (i+1)=r:=by
    have:=drop_cons hgp
    rw [hp] at this
    exact (List.cons.inj this).2.symm
   have hlt':(i:Int)<(all.length:Int):=by omega
   have hw:IntKind.wrap .i64 ((i:Int)+1)=((i+1:Nat):Int):=by rw [wrap64 (by omega) (by omega)];omega
   obtain ⟨q,hq1,hq2,hq3⟩:=(hv.ext he).load (j:=(i:Int)) (by omega) hlt' (strs_get all i p hgp) rfl
   have hld:(st.ld q.1 q.2).bind asS=some (mkS p):=by
    have:=hq3 0 (by omega)
    rw [Nat.add_zero] at this
    rw [this];rfl
   have hl:st.lim≤st.next:=by rw [he.lim];have:=he.next;omega
   have h:=zxd (hg.ext he) hl (mkS p) (by simp;omega) ((i+1:Nat):Int)
   rw [zbI] at h
   unfold zgk
   cases hx:zcZ p with
   | error c=>
     rw [hx] at h
     obtain ⟨st',a,b⟩:=h
     obtain ⟨r0,hjm1,hjm2⟩:=hjm
     have e0:=he.trans b
     have hst:st'.st j 0 [.int .i64 ((i+1:Nat):Int),.int .i64 c]=some (st'.set j (some (.cells [.int .i64 ((i+1:Nat):Int),.int .i64 c] 0))):=
      SS.st_cells (e0.get hj1 hjm1) (by rw [e0.lim];exact hjl) (by rfl) (by rw [zbu (by simp [hjm2])];simp [hjm2])
     refine ⟨st'.set j (some (.cells [.int .i64 ((i+1:Nat):Int),.int .i64 c] 0)),zf3 _ out v _ _ st ?_,by simp,(h01.trans e0).set hj0 _⟩
     simp only [zgj,zdt hlt',zct,hq1,zob,hld,hw,a,zan,List.getElem?_toArray,zgs,zgz,zaa,zai,znf,zad,hst]
   | ok ts=>
     rw [hx] at h
     obtain ⟨w,st',a,b,c,d⟩:=h
     refine zhz.add hN hl1 (by omega) hd (by simp at d;omega) he ho b c ?_
     intro u st'' g1 g2 g3 g4
     refine (ih (i+1) _ u st'' hr (by omega) g4 g2 g3).to ?_
     intro y hy
     refine zf3 _ out v _ _ st ?_
     simp only [zgj,zdt hlt',zct,hq1,zob,hld,hw,a,zan,List.getElem?_toArray,zgs,zgz,zaa,zai,znt,zcf,g1]
     exact hy
def LexR (okv:Value→Nat×Nat→List Value) (errv:Nat×Nat→List Value) (st:SS) (r:Option (Value×SS)):Except (Nat×Nat) (List (Nat×Tok))→Prop
 | .ok us=>∃ v st',r=some (.tuple (okv v (0,0)).toArray,st')∧Ext st st'∧Own st.next st' v (rowsL us) 5 us.length
 | .error e=>∃ st',r=some (.tuple (errv e).toArray,st')∧Ext st st'
def zbs (e:Nat×Nat):Value:=.agg #[.int .i64 e.1,.int .i64 e.2]
theorem rdN2 {st:SS} {j:Nat} {a b:Value} {z:Nat} (h:st.mem.get j=some (.cells [a,b] z)):st.rdN j 0 2=some (.agg #[a,b]):=by
 rw [SS.rdN_cells h,zf1 (n:=2) rfl];rfl
theorem lex_ok [Sym] {st:SS} (hg:Gd st) (hl:st.lim≤st.next) (s:ByteArray) (hs:s.size≤131072):
  LexR (fun v e=>[v,zbs e,.int .i64 0]) (fun e=>[.slice none 0 0,zbs e,.int .i64 4]) st (cc 30 [.string s] st) (lexT (bl s)):=by
 obtain ⟨v,st2,h1,h2,h3⟩:=split_ok s 10 (by omega) (st.new (.cells [.int .i64 0,.int .i64 0] 0)) (by simp;omega)
 have hst1:(st.new (.cells [.int .i64 0,.int .i64 0] 0)).mem.get st.next=some (.cells [.int .i64 0,.int .i64 0] 0):=by simp
 have e01:Ext st st2:=((Ext.refl st).new _).trans h2
 have hm:=h2.get (by simp) hst1
 have hj1:st.next<st2.next:=by have:=h2.next;simp at this;omega
 have hl2:st2.lim≤st2.next:=by rw [e01.lim];have:=e01.next;omega
 have hlen:=pieces_len 10 (bl s)
 rw [zaQ] at hlen
 have hmem:=zjJ 10 (bl s)
 rw [zaQ] at hmem
 have h:=zvW st st2 (hg.ext e01) e01 hl2 st.next (zlr _) hj1 ⟨_,hm,rfl⟩ (by rw [e01.lim];exact hl) (pieces 10 (bl s)) v h3 (s.size+1) (by omega) hlen (fun p hp=>by have:=hmem p hp;omega) (pieces 10 (bl s)) 0 [] (.slice none 0 0) st2 rfl (by omega) (by simp) (.refl _) (Own.nil _ _ _)
 have hbig:¬ (131072:Int)<(s.size:Int):=by omega
 have hb0:Nat.beq 0 0=true:=rfl
 have hb1:Nat.beq 1 0=false:=rfl
 have hlv:(lenV v).bind (asI .i64)=some ((pieces 10 (bl s)).length:Int):=by rw [h3.len];rfl
 unfold lexT
 cases hx:zgk 0 (pieces 10 (bl s)) with
 | ok us=>
   rw [hx] at h
   obtain ⟨w,st3,a,b,c⟩:=h
   have hm3:=b.get hj1 hm
   have hst:st3.st st.next 0 [.int .i64 0,.int .i64 0]=some (st3.set st.next (some (.cells [.int .i64 0,.int .i64 0] 0))):=
    SS.st_cells hm3 (by rw [b.lim,e01.lim];exact hl) (by rfl) (by rfl)
   have hlast:Ext st (st3.set st.next (some (.cells [.int .i64 0,.int .i64 0] 0))):=(e01.trans b).set (zlr _) _
   refine ⟨w,st3.set st.next (some (.cells [.int .i64 0,.int .i64 0] 0)),zl6 s st ?_,hlast,?_⟩
   ·have a':zd0 5 [ptr st.next 0,.slice none 0 0,v,.int .i64 ((pieces 10 (bl s)).length:Int),.int .i64 0] st2=some (0,[ptr st.next 0,w],st3):=a
    have hr:=rdN2 (a:=.int .i64 0) (b:=.int .i64 0) (z:=0) (st:=st3.set st.next (some (.cells [.int .i64 0,.int .i64 0] 0))) (j:=st.next) (by simp)
    simp only [zmH,zdf hbig,zcf,h1,zob,hlv,a',hb0,zct,zgs,zgz,zad,hst,hr]
    rfl
   ·obtain ⟨c1,c2⟩:=c
    refine ⟨c1,c2.imp id ?_⟩
    rintro ⟨i,e,h0,hmi,hbi,hi⟩
    refine ⟨i,e,h0,?_,by omega,hi⟩
    rw [SS.set_old (by omega)]
    exact hmi
 | error e=>
   rw [hx] at h
   obtain ⟨st3,a,b,c⟩:=h
   refine ⟨st3,zl6 s st ?_,c⟩
   have a':zd0 5 [ptr st.next 0,.slice none 0 0,v,.int .i64 ((pieces 10 (bl s)).length:Int),.int .i64 0] st2=some (1,[.slice none 0 0,ptr st.next 0,.int .i64 4],st3):=a
   simp only [zmH,zdf hbig,zcf,h1,zob,hlv,a',hb1,zct,zgs,zgz,zad,zaa,rdN2 b]
   rfl
end Go.Proofs.YtcplfckncandkaaGreatDoorE
namespace Go.Proofs.YtcplfckncandkaaGreatDoorE
open Go Go.E Go.Proofs
theorem TK.newV {st:SS} {r:List Value} {v:Value} {n:Nat} (hl:st.lim≤st.next) (h1:v.cells.toList.all one=true) (hn:v.cells.size=n) (hr:r.length=n):∃ stX,(st.new (.cells r 0)).stV st.next 0 n v=some stX∧TK st stX v.cells.toList:=by
 obtain ⟨stX,h,t⟩:=TK.new (st:=st) (r:=r) (row:=v.cells.toList) hl h1 (by simp [hr,hn])
 refine ⟨stX,?_,t⟩
 unfold SS.stV
 have:Nat.beq v.cells.size n=true:=by rw [zar,hn];simp
 rw [this]
 exact h
theorem TK.pair {st:SS} {r:List Value} (e:Nat×Nat) (hl:st.lim≤st.next) (hr:r.length=2):∃ stX,(st.new (.cells r 0)).stV st.next 0 2 (zbs e)=some stX∧TK st stX [.int .i64 e.1,.int .i64 e.2]:=TK.newV (v:=zbs e) hl (by rfl) rfl hr
theorem zia (us:List (Nat×Tok)) (i:Nat) (t:Nat×Tok) (h:us[i]?=some t):((rowsL us).drop (i*5)).take 5=za6 t.1 t.2:=by
 induction us generalizing i with
 | nil=>simp at h
 | cons a r ih=>
   cases i with
   | zero=>
     simp at h
     subst h
     show ((za6 a.1 a.2++rowsL r).drop (0*5)).take 5=_
     rfl
   | succ i=>
     have:=ih i (by simpa using h)
     show ((za6 a.1 a.2++rowsL r).drop ((i+1)*5)).take 5=_
     have e:(i+1)*5=(za6 a.1 a.2).length+i*5:=by simp [za6];omega
     rw [e,← List.drop_drop,List.drop_left]
     exact this
theorem zul (ps:List (List UInt8)) (i N:Nat) (us:List (Nat×Tok)) (h:zgk i ps=.ok us) (hN:∀ p∈ps,∀ ts,zcZ p=.ok ts→ts.length≤N):us.length≤ps.length*N:=by
 induction ps generalizing i us with
 | nil=>cases h;simp
 | cons p r ih=>
   unfold zgk at h
   cases hx:zcZ p with
   | error c=>rw [hx] at h;cases h
   | ok ts=>
     rw [hx] at h
     cases hy:zgk (i+1) r with
     | error e=>rw [hy] at h;cases h
     | ok vs=>
       rw [hy] at h
       cases h
       have h1:=ih (i+1) vs hy (fun q hq=>hN q (List.mem_cons_of_mem _ hq))
       have h2:=hN p (List.mem_cons_self ..) ts hx
       rw [List.length_append,List.length_map,List.length_cons,Nat.add_mul]
       omega
theorem zvX (k col:Nat) (l:List UInt8) (ts:List Tok) (h:zd6 k col l=.ok ts):ts.length≤k:=by
 induction k generalizing col l ts with
 | zero=>cases h;simp
 | succ k ih=>
   unfold zd6 at h
   split at h
   ·cases h;simp
   ·have:=ih _ _ _ h;omega
   ·rename_i kd n x _
    cases hx:zd6 k (col+n) (l.drop n) with
    | error e=>rw [hx] at h;cases h
    | ok us=>rw [hx] at h;cases h;have:=ih _ _ _ hx;simp;omega
   ·cases h
theorem zpl (p:List UInt8) (ts:List Tok) (h:zcZ p=.ok ts):ts.length≤p.length+1:=by
 unfold zcZ at h
 split at h
 ·rename_i us hu;cases h;have:=zvX _ _ _ _ hu;simp;omega
 ·cases h
theorem zvY (l:List UInt8) (us:List (Nat×Tok)) (h:lexT l=.ok us):us.length≤(l.length+1)*(l.length+1):=by
 have h1:=zul (pieces 10 l) 0 (l.length+1) us h (fun p hp ts hts=>by have:=zjJ 10 l p hp;have:=zpl p ts hts;omega)
 exact zlt h1 (Nat.mul_le_mul_right _ (pieces_len 10 l))
theorem zhA {a b:List UInt8} (h:a.length+b.length≤9223372036854775807):zb9 (mkS a) (mkS b)=some (mkS (a++b)):=by
 unfold zb9
 have:Nat.ble ((mkS a).size+(mkS b).size) 9223372036854775807=true:=by rw [Nat.ble_eq];simpa using h
 rw [this,zct]
 congr 1
theorem zd1 (l:List UInt8):eqT (mkS l) ⟨#[]⟩=decide (l=[]):=rfl
theorem zeB {s:ByteArray} {j:Nat} {b:UInt8} (hb:(bl s)[j]?=some b):(zcB s (j:Int)).bind (asI .u8)=some (b.toNat:Int):=by
 have hj:j<s.size:=by have:=(List.getElem?_eq_some_iff.1 hb).1;rwa [zaQ] at this
 obtain ⟨b',hb',hidx⟩:=zt9 (s:=s) (i:=(j:Int)) (by omega) (by omega)
 rw [Int.toNat_natCast,hb] at hb'
 cases hb'
 rw [hidx];simp
theorem zfz (c x:UInt8) (l:List UInt8):pieces c (x::l)=if x=c then []::pieces c l else match pieces c l with
  | []=>[[x]]
  | y::z=>(x::y)::z:=rfl
theorem zro {α:Type} {l:List α} {j:Nat} {x:α} (h:l[j]?=some x):l.take (j+1)=l.take j++[x]:=by
 rw [List.take_add_one,h];rfl
end Go.Proofs.YtcplfckncandkaaGreatDoorE
namespace Go.Proofs.YtcplfckncandkaaGreatDoorE
open Go Go.E Go.Proofs
def blankB (b:UInt8):Prop:=(b.toNat:Int)=32∨(b.toNat:Int)=9∨(b.toNat:Int)=13
theorem znD (c:UInt8) (r:List UInt8):stepT (c::r)=if (c.toNat:Int)=59 then .stop
  else if (c.toNat:Int)=32∨(c.toNat:Int)=9∨(c.toNat:Int)=13 then .blank
  else if zdY c.toNat=true then (if 24<zaP (c::r) then .bad else .tok 1 (zaP (c::r)) 0)
  else if zfx c.toNat=true then (match numO (zdI ((c::r).take (zaP (c::r)))) with
   | some m=>.tok 2 (zaP (c::r)) m
   | none=>.bad)
  else if zp1 c=true then .tok 3 1 0 else .bad:=rfl
theorem zum {l:List UInt8} {kd n:Nat} {x:Int} (h:stepT l=.tok kd n x):0<n∧n≤l.length∧(kd=1∨kd=2∨kd=3):=by
 cases l with
 | nil=>cases h
 | cons c r=>
   rw [znD] at h
   split at h
   ·cases h
   ·split at h
    ·cases h
    ·split at h
     ·rename_i hlet
      split at h
      ·cases h
      ·cases h
       exact ⟨zjH (by unfold nameB;rw [hlet];rfl),zow _,.inl rfl⟩
     ·split at h
      ·rename_i hdig
       split at h
       ·cases h
        exact ⟨zjH (by unfold nameB;rw [hdig];simp),zow _,.inr (.inl rfl)⟩
       ·cases h
      ·split at h
       ·cases h
        exact ⟨by omega,by simp,.inr (.inr rfl)⟩
       ·cases h
def View (c:Nat) (l:List UInt8) (ts:List Tok):Prop:=
 ∃ m,(∀ j b,j<m→l[j]?=some b→blankB b)∧((ts=[]∧m≤l.length∧∀ b,l[m]?=some b→(b.toNat:Int)=59)∨
  ∃ n kd x k' ts',m+n≤l.length∧0<n∧(kd=1∨kd=2∨kd=3)∧ts=⟨kd,(l.drop m).take n,x,c+m+1⟩::ts'∧(l.drop (m+n)).length≤k'∧zd6 k' (c+m+n) (l.drop (m+n))=.ok ts')
end Go.Proofs.YtcplfckncandkaaGreatDoorE
namespace Go.Proofs.YtcplfckncandkaaGreatDoorE
open Go Go.E Go.Proofs
structure Val where
 nm:List UInt8
 x:Int
 col:Nat
structure Pr where
 fd:List UInt8
 col:Nat
 v:Val
structure PLine where
 ln:Nat
 lab:List UInt8
 dir:List UInt8
 args:List Val
 prs:List Pr
def zaM (t:Tok) (s:List UInt8):Bool:=decide (t.kd=3)&&decide (t.tx=s)
def zeC:List Tok→Except Nat (Val×Nat)
 | []=>.error 0
 | t::r=>if t.kd=2 then .ok (⟨[],t.nm,t.col⟩,1) else if t.kd=1 then (match r with
   | []=>.error 0
   | s::u=>if zaM s [43]=true then (match u with
     | n::_=>if n.kd=2 then .ok (⟨t.tx,n.nm,t.col⟩,3) else .error 2
     | []=>.error 2)
     else if zaM s [45]=true then (match u with
      | n::_=>if n.kd=2 then .ok (⟨t.tx, -n.nm,t.col⟩,3) else .error 2
      | []=>.error 2)
     else .ok (⟨t.tx,0,t.col⟩,1)) else .error 0
def zdJ:Nat→List Tok→Except Nat (List Val)
 | 0,_=>.ok []
 | _+1,[]=>.ok []
 | k+1,t::r=>if t.kd=0 then .ok [] else match zeC (t::r) with
   | .error o=>.error o
   | .ok (v,n)=>match zdJ k ((t::r).drop n) with
     | .error o=>.error (n+o)
     | .ok vs=>.ok (v::vs)
def pairT (seen:List (List UInt8)):List Tok→Except Nat (Pr×Nat)
 | []=>.error 0
 | t::r=>if t.kd=1∧t.tx∉seen then (match r with
   | []=>.error 1
   | e::u=>if zaM e [61]=true then (match zeC u with
     | .error o=>.error (2+o)
     | .ok (v,n)=>.ok (⟨t.tx,t.col,v⟩,2+n)) else .error 1)
   else .error 0
def zbx:Nat→List (List UInt8)→List Tok→Except Nat (List Pr)
 | 0,_,_=>.ok []
 | _+1,_,[]=>.ok []
 | k+1,seen,t::r=>if t.kd=0 then .ok [] else match pairT seen (t::r) with
   | .error o=>.error o
   | .ok (p,n)=>match zbx k (seen++[p.fd]) ((t::r).drop n) with
     | .error o=>.error (n+o)
     | .ok ps=>.ok (p::ps)
def zdj (lab:List UInt8):List Tok→Except Nat PLine
 | []=>.error 0
 | t::r=>if zaM t [46]=true then (match r with
   | []=>.error 1
   | d::u=>if d.kd=1 then (match zdJ u.length u with
     | .error o=>.error (2+o)
     | .ok vs=>.ok ⟨0,lab,d.tx,vs,[]⟩) else .error 1)
   else match zbx (t::r).length [] (t::r) with
    | .error o=>.error o
    | .ok ps=>.ok ⟨0,lab,[],[],ps⟩
def readT:List Tok→Except Nat PLine
 | t::s::r=>if t.kd=1∧zaM s [58]=true then (match zdj t.tx r with
   | .error o=>.error (2+o)
   | .ok x=>.ok x) else zdj [] (t::s::r)
 | l=>zdj [] l
def zsO (l:List Tok) (o:Nat):Nat:=((l[o]?).map (·.col)).getD 0
def zdr:Nat→List (List Tok)→Except (Nat×Nat) (List PLine)
 | _,[]=>.ok []
 | i,ts::r=>match readT ts with
   | .error o=>.error (i+1,zsO ts o)
   | .ok x=>match zdr (i+1) r with
     | .error e=>.error e
     | .ok xs=>.ok (if 1<ts.length then { x with ln:=i+1 }::xs else xs)
def zc0:Nat→List (List UInt8)→Except (Nat×Nat) (List (List Tok))
 | _,[]=>.ok []
 | i,p::r=>match zcZ p with
   | .error c=>.error (i+1,c)
   | .ok ts=>match zc0 (i+1) r with
     | .error e=>.error e
     | .ok tss=>.ok (ts::tss)
def zfa (l:List UInt8):Except (Nat×Nat) (List PLine):=match zc0 0 (pieces 10 l) with
 | .error e=>.error e
 | .ok tss=>zdr 0 tss
def flat:Nat→List (List Tok)→List (Nat×Tok)
 | _,[]=>[]
 | i,ts::r=>ts.map (fun t=>(i+1,t))++flat (i+1) r
theorem zsP (ps:List (List UInt8)) (i:Nat):zgk i ps=match zc0 i ps with
  | .error e=>.error e
  | .ok tss=>.ok (flat i tss):=by
 induction ps generalizing i with
 | nil=>rfl
 | cons p r ih=>
   unfold zgk zc0
   cases hx:zcZ p with
   | error c=>rfl
   | ok ts=>
     simp only
     rw [ih (i+1)]
     cases hy:zc0 (i+1) r with
     | error e=>rfl
     | ok tss=>rfl
def Lin:List Tok→Prop
 | []=>False
 | t::r=>(t.kd=0∧r=[])∨(t.kd≠0∧Lin r)
theorem Lin.tail {t:Tok} {r:List Tok} (h:Lin (t::r)) (hk:t.kd≠0):Lin r:=h.elim (fun x=>absurd x.1 hk) (·.2)
theorem Lin.last {t:Tok} {r:List Tok} (h:Lin (t::r)) (hk:t.kd=0):r=[]:=h.elim (·.2) fun x=>absurd hk x.1
theorem Lin.ne {r:List Tok} (h:Lin r):∃ t u,r=t::u:=by
 cases r with
 | nil=>exact h.elim
 | cons t u=>exact ⟨t,u,rfl⟩
structure TokOk (t:Tok):Prop where
 kd:t.kd≤3
 tx:t.kd=1→t.tx≠[]
 nm0:0≤t.nm
 nm1:t.nm≤2147483647
theorem zsQ {l:List UInt8} {m:Nat} (h:numO (zdI l)=some m):m≤2147483647:=by
 have key:∀ B q,numO (za8 B q)=some m→m≤2147483647:=by
  intro B q h
  have hr:=zgr (B:=B) (l:=q)
  cases hp:za8 B q with
  | none=>rw [hp] at h;cases h
  | some x=>cases x with
    | none=>rw [hp] at h;cases h
    | some k=>
      rw [hp] at h hr
      have:k=m:=by injection h
      subst this
      simp only [puV] at hr
      omega
 unfold zdI at h
 split at h
 ·exact key _ _ h
 ·exact key _ _ h
theorem zvZ {l:List UInt8} {kd n:Nat} {x:Int} {c:Nat} (h:stepT l=.tok kd n x):TokOk ⟨kd,l.take n,x,c⟩∧kd≠0:=by
 obtain ⟨h1,h2,h3⟩:=zum h
 have hne:l.take n≠[]:=by
  intro e
  have:=congrArg List.length e
  rw [List.length_take] at this
  simp at this
  rcases this with rfl | rfl
  ·omega
  ·simp at h2;omega
 have hx:0≤x∧x≤2147483647:=by
  cases l with
  | nil=>cases h
  | cons c r=>
    rw [znD] at h
    split at h
    ·cases h
    ·split at h
     ·cases h
     ·split at h
      ·split at h
       ·cases h
       ·cases h;omega
      ·split at h
       ·split at h
        ·rename_i m hm
         cases h
         have:=zsQ hm
         omega
        ·cases h
       ·split at h
        ·cases h;omega
        ·cases h
 exact ⟨⟨by show kd≤3;omega,fun _=>hne,hx.1,hx.2⟩,by omega⟩
theorem Lin.snoc {ts:List Tok} {e:Tok} (h:∀ t∈ts,t.kd≠0) (he:e.kd=0):Lin (ts++[e]):=by
 induction ts with
 | nil=>exact .inl ⟨he,rfl⟩
 | cons t r ih=>exact .inr ⟨h t (List.mem_cons_self ..),ih fun u hu=>h u (List.mem_cons_of_mem _ hu)⟩
theorem zxe (k col:Nat) (l:List UInt8) (ts:List Tok) (h:zd6 k col l=.ok ts):∀ t∈ts,TokOk t∧t.kd≠0:=by
 induction k generalizing col l ts with
 | zero=>cases h;intro t ht;cases ht
 | succ k ih=>
   unfold zd6 at h
   split at h
   ·cases h;intro t ht;cases ht
   ·exact ih _ _ _ h
   ·rename_i kd n x hs
    cases hx:zd6 k (col+n) (l.drop n) with
    | error e=>rw [hx] at h;cases h
    | ok us=>
      rw [hx] at h;cases h
      intro t ht
      rcases List.mem_cons.1 ht with rfl | ht
      ·exact zvZ hs
      ·exact ih _ _ _ hx t ht
   ·cases h
theorem zqA {p:List UInt8} {ts:List Tok} (h:zcZ p=.ok ts):Lin ts∧∀ t∈ts,TokOk t:=by
 unfold zcZ at h
 split at h
 ·rename_i us hu
  cases h
  have h1:=zxe _ _ _ _ hu
  refine ⟨Lin.snoc (fun t ht=>(h1 t ht).2) rfl,fun t ht=>?_⟩
  rcases List.mem_append.1 ht with ht | ht
  ·exact (h1 t ht).1
  ·have:t=zf5 p:=by simpa using ht
   subst this
   exact ⟨by simp [zf5],fun h=>by simp [zf5] at h,by simp [zf5],by simp [zf5]⟩
 ·cases h
theorem zv0 (ps:List (List UInt8)) (i:Nat) (tss:List (List Tok)) (h:zc0 i ps=.ok tss):∀ ts∈tss,Lin ts∧∀ t∈ts,TokOk t:=by
 induction ps generalizing i tss with
 | nil=>cases h;intro ts hts;cases hts
 | cons p r ih=>
   unfold zc0 at h
   cases hx:zcZ p with
   | error c=>rw [hx] at h;cases h
   | ok ts=>
     rw [hx] at h
     cases hy:zc0 (i+1) r with
     | error e=>rw [hy] at h;cases h
     | ok us=>
       rw [hy] at h;cases h
       intro ts' ht
       rcases List.mem_cons.1 ht with rfl | ht
       ·exact zqA hx
       ·exact ih _ _ hy ts' ht
theorem zc1 {t:Tok} {s:List UInt8} (h:zaM t s=true):t.kd=3:=by
 simp [zaM] at h;exact h.1
theorem zg0 (t:Tok) (r:List Tok):zeC (t::r)=(if t.kd=2 then .ok (⟨[],t.nm,t.col⟩,1) else if t.kd=1 then (match r with
   | []=>.error 0
   | s::u=>if zaM s [43]=true then (match u with
     | n::_=>if n.kd=2 then .ok (⟨t.tx,n.nm,t.col⟩,3) else .error 2
     | []=>.error 2)
     else if zaM s [45]=true then (match u with
      | n::_=>if n.kd=2 then .ok (⟨t.tx, -n.nm,t.col⟩,3) else .error 2
      | []=>.error 2)
     else .ok (⟨t.tx,0,t.col⟩,1)) else .error 0):=rfl
theorem zjK (seen:List (List UInt8)) (t:Tok) (r:List Tok):pairT seen (t::r)=(if t.kd=1∧t.tx∉seen then (match r with
   | []=>.error 1
   | e::u=>if zaM e [61]=true then (match zeC u with
     | .error o=>.error (2+o)
     | .ok (v,n)=>.ok (⟨t.tx,t.col,v⟩,2+n)) else .error 1)
  else .error 0):=rfl
theorem zkR {l:List Tok} (hl:Lin l):match zeC l with
  | .ok (_,n)=>Lin (l.drop n)∧0<n
  | .error o=>o<l.length:=by
 obtain ⟨t,r,rfl⟩:=hl.ne
 rw [zg0]
 by_cases h2:t.kd=2
 ·rw [if_pos h2]
  exact ⟨hl.tail (by omega),by omega⟩
 ·rw [if_neg h2]
  by_cases h1:t.kd=1
  ·rw [if_pos h1]
   have hr:=hl.tail (by omega)
   obtain ⟨s,u,rfl⟩:=hr.ne
   simp only
   by_cases hp:zaM s [43]=true
   ·rw [if_pos hp]
    have hu:=hr.tail (by have:=zc1 hp;omega)
    obtain ⟨n,w,rfl⟩:=hu.ne
    simp only
    by_cases hn:n.kd=2
    ·rw [if_pos hn];exact ⟨hu.tail (by omega),by omega⟩
    ·rw [if_neg hn];simp
   ·rw [if_neg hp]
    by_cases hm:zaM s [45]=true
    ·rw [if_pos hm]
     have hu:=hr.tail (by have:=zc1 hm;omega)
     obtain ⟨n,w,rfl⟩:=hu.ne
     simp only
     by_cases hn:n.kd=2
     ·rw [if_pos hn];exact ⟨hu.tail (by omega),by omega⟩
     ·rw [if_neg hn];simp
    ·rw [if_neg hm];exact ⟨hr,by omega⟩
  ·rw [if_neg h1];simp
theorem zpm {seen:List (List UInt8)} {l:List Tok} (hl:Lin l):match pairT seen l with
  | .ok (_,n)=>Lin (l.drop n)∧0<n
  | .error o=>o<l.length:=by
 obtain ⟨t,r,rfl⟩:=hl.ne
 rw [zjK]
 by_cases h1:t.kd=1∧t.tx∉seen
 ·rw [if_pos h1]
  have hr:=hl.tail (by omega)
  obtain ⟨e,u,rfl⟩:=hr.ne
  simp only
  by_cases he:zaM e [61]=true
  ·rw [if_pos he]
   have hu:=hr.tail (by have:=zc1 he;omega)
   have h:=zkR hu
   cases hx:zeC u with
   | error o=>rw [hx] at h;simp only at h ⊢;simp;omega
   | ok y=>
     obtain ⟨v,n⟩:=y
     rw [hx] at h
     simp only at h ⊢
     rw [Nat.add_comm 2 n]
     exact ⟨h.1,by omega⟩
  ·rw [if_neg he];simp
 ·rw [if_neg h1];simp
theorem zun (k:Nat) (l:List Tok) (hl:Lin l) (o:Nat) (h:zdJ k l=.error o):o<l.length:=by
 induction k generalizing l o with
 | zero=>cases h
 | succ k ih=>
   obtain ⟨t,r,rfl⟩:=hl.ne
   unfold zdJ at h
   split at h
   ·cases h
   ·have hx:=zkR hl
    cases hy:zeC (t::r) with
    | error o'=>rw [hy] at h hx;cases h;exact hx
    | ok y=>
      obtain ⟨v,n⟩:=y
      rw [hy] at h hx
      simp only at h hx
      cases hz:zdJ k ((t::r).drop n) with
      | ok vs=>rw [hz] at h;cases h
      | error o'=>
        rw [hz] at h
        have:=ih _ hx.1 o' hz
        rw [List.length_drop] at this
        have h':n+o'=o:=by injection h
        omega
theorem zsR (k:Nat) (seen:List (List UInt8)) (l:List Tok) (hl:Lin l) (o:Nat) (h:zbx k seen l=.error o):o<l.length:=by
 induction k generalizing seen l o with
 | zero=>cases h
 | succ k ih=>
   obtain ⟨t,r,rfl⟩:=hl.ne
   unfold zbx at h
   split at h
   ·cases h
   ·have hx:=zpm (seen:=seen) hl
    cases hy:pairT seen (t::r) with
    | error o'=>rw [hy] at h hx;cases h;exact hx
    | ok y=>
      obtain ⟨v,n⟩:=y
      rw [hy] at h hx
      simp only at h hx
      cases hz:zbx k (seen++[v.fd]) ((t::r).drop n) with
      | ok vs=>rw [hz] at h;cases h
      | error o'=>
        rw [hz] at h
        have:=ih _ _ hx.1 o' hz
        rw [List.length_drop] at this
        have h':n+o'=o:=by injection h
        omega
theorem zeD (lab:List UInt8) (t:Tok) (r:List Tok):zdj lab (t::r)=if zaM t [46]=true then (match r with
   | []=>.error 1
   | d::u=>if d.kd=1 then (match zdJ u.length u with
     | .error o=>.error (2+o)
     | .ok vs=>.ok ⟨0,lab,d.tx,vs,[]⟩) else .error 1)
  else match zbx (t::r).length [] (t::r) with
   | .error o=>.error o
   | .ok ps=>.ok ⟨0,lab,[],[],ps⟩:=rfl
theorem zib (t s:Tok) (r:List Tok):readT (t::s::r)=if t.kd=1∧zaM s [58]=true then (match zdj t.tx r with
   | .error o=>.error (2+o)
   | .ok x=>.ok x) else zdj [] (t::s::r):=rfl
theorem zkS (lab:List UInt8) (l:List Tok) (hl:Lin l) (o:Nat) (h:zdj lab l=.error o):o<l.length:=by
 obtain ⟨t,r,rfl⟩:=hl.ne
 rw [zeD] at h
 by_cases hs:zaM t [46]=true
 ·rw [if_pos hs] at h
  have hr:=hl.tail (by have:=zc1 hs;omega)
  obtain ⟨d,u,rfl⟩:=hr.ne
  simp only at h
  by_cases hd:d.kd=1
  ·rw [if_pos hd] at h
   have hu:=hr.tail (by omega)
   cases hx:zdJ u.length u with
   | ok vs=>rw [hx] at h;cases h
   | error o'=>
     rw [hx] at h
     have:=zun _ _ hu o' hx
     have h':2+o'=o:=by injection h
     simp;omega
  ·rw [if_neg hd] at h;cases h;simp
 ·rw [if_neg hs] at h
  cases hx:zbx (t::r).length [] (t::r) with
  | ok vs=>rw [hx] at h;cases h
  | error o'=>
    rw [hx] at h
    have:=zsR _ _ _ hl o' hx
    have h':o'=o:=by injection h
    omega
theorem zuo (l:List Tok) (hl:Lin l) (o:Nat) (h:readT l=.error o):o<l.length:=by
 obtain ⟨t,r,rfl⟩:=hl.ne
 cases r with
 | nil=>exact zkS [] _ hl o h
 | cons s r=>
   rw [zib] at h
   split at h
   ·rename_i hc
    have hr:Lin r:=(hl.tail (by omega)).tail (by have:=zc1 hc.2;omega)
    cases hx:zdj t.tx r with
    | ok x=>rw [hx] at h;cases h
    | error o'=>
      rw [hx] at h
      have:=zkS _ _ hr o' hx
      have h':2+o'=o:=by injection h
      simp;omega
   ·exact zkS [] _ hl o h
end Go.Proofs.YtcplfckncandkaaGreatDoorE
namespace Go.Proofs.YtcplfckncandkaaGreatDoorE
set_option maxRecDepth 20000
open Go Go.E Go.Proofs
noncomputable def zgJ (cf:zak) (lf:zab) (p':Value) (st:SS):Option (Value×SS):=
 let a:SS:=(st.ro st.next).new (.cells [.int .i64 0,.string ⟨#[]⟩,.int .i64 0,.int .i64 0,.int .i64 0] 0)
 (zaj p').bind fun b=>
 (addr? b).bind fun c=>
 (a.ld c.1 c.2).bind fun d=>
 (zaj p').bind fun e=>
 (addr? e).bind fun f=>
 ((a.ld f.1 (f.2+1)).bind (asI .i64)).bind fun g=>
 (zau d g 5).bind fun h=>
 (a.ldN h.1 h.2 5).bind fun i=>
 (a.stV ((st.ro st.next).next) 0 5 i).bind fun j=>
 (j.rdN ((st.ro st.next).next) 0 5).bind fun k=>
 cond (flat3 k) (some (k,st.adv j.next)) none
noncomputable abbrev zjL:zab:=lS Tryz.prog Lk0 Tryz.f32 zav
theorem zjM:Lk0.func 32=some (32,Tryz.f32):=by kernel_rfl
theorem zjN [Sym] (p':Value) (st:SS) {r:Value×SS} (h:zgJ cc zjL p' st=some r):cc 32 [p'] st=some r:=
 zaf (li:=zav) zah zal zjM rfl (fun _=>rfl) (.trans (by kernel_rfl) h)
noncomputable def zem (cf:zak) (lf:zab) (p':Value) (st:SS):Option (Value×SS):=
 let a:SS:=(st.ro st.next).new (.cells [.int .i64 0,.string ⟨#[]⟩,.int .i64 0,.int .i64 0,.int .i64 0] 0)
 (cf 32 [p'] a).bind fun b=>
 ((zdD Lk0 98 0 b.1).bind (asI .i64)).bind fun c=>
 cond (decide (c=0)) (
 (cf 32 [p'] b.2).bind fun d=>
 (d.2.stV ((st.ro st.next).next) 0 5 d.1).bind fun e=>
 (e.rdN ((st.ro st.next).next) 0 5).bind fun f=>
 cond (flat3 f) (some (f,st.adv e.next)) none) (
 (zaj p').bind fun g=>
 (addr? g).bind fun h=>
 (b.2.ld h.1 h.2).bind fun i=>
 (zaj p').bind fun j=>
 (addr? j).bind fun k=>
 ((b.2.ld k.1 (k.2+1)).bind (asI .i64)).bind fun l=>
 let m:Int:=IntKind.wrap .i64 (l+1)
 (zau i m 5).bind fun n=>
 (b.2.ldN n.1 n.2 5).bind fun o=>
 (b.2.stV ((st.ro st.next).next) 0 5 o).bind fun p=>
 (p.rdN ((st.ro st.next).next) 0 5).bind fun q=>
 cond (flat3 q) (some (q,st.adv p.next)) none)
noncomputable abbrev ziW:zab:=lS Tryz.prog Lk0 Tryz.f48 zav
theorem ziX:Lk0.func 48=some (48,Tryz.f48):=by kernel_rfl
theorem zfn [Sym] (p':Value) (st:SS) {r:Value×SS} (h:zem cc ziW p' st=some r):cc 48 [p'] st=some r:=
 zaf (li:=zav) zah zal ziX rfl (fun _=>rfl) (.trans (by kernel_rfl) h)
noncomputable def zcR (cf:zak) (lf:zab) (p':Value) (sign':ByteArray) (st:SS):Option (Value×SS):=
 (cf 32 [p'] st).bind fun a=>
 let b:SS:=a.2.new (.cells [.int .i64 0,.string ⟨#[]⟩,.int .i64 0,.int .i64 0,.int .i64 0] 0)
 (b.stV a.2.next 0 5 a.1).bind fun c=>
 ((c.ld a.2.next 0).bind (asI .i64)).bind fun d=>
 cond (!(decide (d=3))) (
 some (.bool false,c)) (
 ((c.ld a.2.next 1).bind asS).bind fun e=>
 cond (!(eqT e sign')) (
 some (.bool false,c)) (
 (zaj p').bind fun f=>
 (addr? f).bind fun g=>
 ((c.ld g.1 (g.2+1)).bind (asI .i64)).bind fun h=>
 let i:Int:=IntKind.wrap .i64 (h+1)
 (zaj p').bind fun j=>
 (addr? j).bind fun k=>
 (c.st k.1 (k.2+1) [.int .i64 i]).bind fun l=>
 some (.bool true,l)))
noncomputable abbrev ziv:zab:=lS Tryz.prog Lk0 Tryz.f49 zav
theorem ziw:Lk0.func 49=some (49,Tryz.f49):=by kernel_rfl
theorem zdc [Sym] (p':Value) (sign':ByteArray) (st:SS) {r:Value×SS} (h:zcR cc ziv p' sign' st=some r):cc 49 [p',.string sign'] st=some r:=
 zaf (li:=zav) zah zal ziw rfl (fun _=>rfl) (.trans (by kernel_rfl) h)
noncomputable def zen (cf:zak) (lf:zab) (p':Value) (st:SS):Option (Value×SS):=
 (cf 32 [p'] st).bind fun a=>
 let b:SS:=a.2.new (.cells [.int .i64 0,.string ⟨#[]⟩,.int .i64 0,.int .i64 0,.int .i64 0] 0)
 (b.stV a.2.next 0 5 a.1).bind fun c=>
 ((c.ld a.2.next 0).bind (asI .i64)).bind fun d=>
 cond (!(decide (d=1))) (
 some (.tuple #[.string ⟨#[]⟩,.bool false],c)) (
 (zaj p').bind fun e=>
 (addr? e).bind fun f=>
 ((c.ld f.1 (f.2+1)).bind (asI .i64)).bind fun g=>
 let h:Int:=IntKind.wrap .i64 (g+1)
 (zaj p').bind fun i=>
 (addr? i).bind fun j=>
 (c.st j.1 (j.2+1) [.int .i64 h]).bind fun k=>
 ((k.ld a.2.next 1).bind asS).bind fun l=>
 some (.tuple #[.string l,.bool true],k))
noncomputable abbrev ziY:zab:=lS Tryz.prog Lk0 Tryz.f50 zav
theorem ziZ:Lk0.func 50=some (50,Tryz.f50):=by kernel_rfl
theorem zfo [Sym] (p':Value) (st:SS) {r:Value×SS} (h:zen cc ziY p' st=some r):cc 50 [p'] st=some r:=
 zaf (li:=zav) zah zal ziZ rfl (fun _=>rfl) (.trans (by kernel_rfl) h)
noncomputable def zdK (cf:zak) (lf:zab) (p':Value) (st:SS):Option (Value×SS):=
 (cf 32 [p'] st).bind fun a=>
 let b:SS:=a.2.new (.cells [.int .i64 0,.string ⟨#[]⟩,.int .i64 0,.int .i64 0,.int .i64 0] 0)
 (b.stV a.2.next 0 5 a.1).bind fun c=>
 ((c.ld a.2.next 0).bind (asI .i64)).bind fun d=>
 cond (!(decide (d=2))) (
 some (.tuple #[.int .i64 0,.bool false],c)) (
 (zaj p').bind fun e=>
 (addr? e).bind fun f=>
 ((c.ld f.1 (f.2+1)).bind (asI .i64)).bind fun g=>
 let h:Int:=IntKind.wrap .i64 (g+1)
 (zaj p').bind fun i=>
 (addr? i).bind fun j=>
 (c.st j.1 (j.2+1) [.int .i64 h]).bind fun k=>
 ((k.ld a.2.next 2).bind (asI .i64)).bind fun l=>
 some (.tuple #[.int .i64 l,.bool true],k))
noncomputable abbrev zhS:zab:=lS Tryz.prog Lk0 Tryz.f71 zav
theorem zhT:Lk0.func 71=some (71,Tryz.f71):=by kernel_rfl
theorem zeJ [Sym] (p':Value) (st:SS) {r:Value×SS} (h:zdK cc zhS p' st=some r):cc 71 [p'] st=some r:=
 zaf (li:=zav) zah zal zhT rfl (fun _=>rfl) (.trans (by kernel_rfl) h)
noncomputable def zbf (cf:zak) (lf:zab) (p':Value) (st:SS):Option (Value×SS):=
 let a:SS:=st.new (.cells [.string ⟨#[]⟩,.int .i64 0,.int .i64 0] 0)
 (cf 32 [p'] a).bind fun b=>
 ((zdD Lk0 98 4 b.1).bind (asI .i64)).bind fun c=>
 let d:SS:=b.2.new (.cells [.string ⟨#[]⟩,.int .i64 0,.int .i64 0] 0)
 (d.st b.2.next 0 [.string ⟨#[]⟩,.int .i64 0,.int .i64 c]).bind fun e=>
 (cf 71 [p'] e).bind fun f=>
 ((zan f.1 0).bind (asI .i64)).bind fun g=>
 ((zan f.1 1).bind asB).bind fun h=>
 (f.2.st b.2.next 1 [.int .i64 g]).bind fun i=>
 cond h (
 (i.ldN b.2.next 0 3).bind fun j=>
 (i.stV st.next 0 3 j).bind fun k=>
 (k.rdN st.next 0 3).bind fun l=>
 some (.tuple #[l,.bool true],k)) (
 (cf 50 [p'] i).bind fun m=>
 ((zan m.1 0).bind asS).bind fun n=>
 ((zan m.1 1).bind asB).bind fun o=>
 (m.2.st b.2.next 0 [.string n]).bind fun p=>
 cond (!o) (
 (p.ldN b.2.next 0 3).bind fun q=>
 (p.stV st.next 0 3 q).bind fun r=>
 (r.rdN st.next 0 3).bind fun s=>
 some (.tuple #[s,.bool false],r)) (
 (cf 49 [p',.string ⟨#[43]⟩] p).bind fun t=>
 ((some t.1).bind asB).bind fun u=>
 cond u (
 (cf 71 [p'] t.2).bind fun v=>
 ((zan v.1 0).bind (asI .i64)).bind fun w=>
 ((zan v.1 1).bind asB).bind fun x=>
 (v.2.st b.2.next 1 [.int .i64 w]).bind fun y=>
 (y.ldN b.2.next 0 3).bind fun z=>
 (y.stV st.next 0 3 z).bind fun A=>
 (A.rdN st.next 0 3).bind fun B=>
 some (.tuple #[B,.bool x],A)) (
 (cf 49 [p',.string ⟨#[45]⟩] t.2).bind fun C=>
 ((some C.1).bind asB).bind fun D=>
 cond D (
 (cf 71 [p'] C.2).bind fun E=>
 ((zan E.1 0).bind (asI .i64)).bind fun F=>
 ((zan E.1 1).bind asB).bind fun G=>
 (E.2.st b.2.next 1 [.int .i64 F]).bind fun H=>
 ((H.ld b.2.next 1).bind (asI .i64)).bind fun I=>
 let J:Int:=IntKind.wrap .i64 (0-I)
 (H.st b.2.next 1 [.int .i64 J]).bind fun K=>
 (K.ldN b.2.next 0 3).bind fun L=>
 (K.stV st.next 0 3 L).bind fun M=>
 (M.rdN st.next 0 3).bind fun N=>
 some (.tuple #[N,.bool G],M)) (
 (C.2.ldN b.2.next 0 3).bind fun O=>
 (C.2.stV st.next 0 3 O).bind fun P=>
 (P.rdN st.next 0 3).bind fun Q=>
 some (.tuple #[Q,.bool o],P)))))
noncomputable abbrev zix:zab:=lS Tryz.prog Lk0 Tryz.f51 zav
theorem ziy:Lk0.func 51=some (51,Tryz.f51):=by kernel_rfl
theorem zbb [Sym] (p':Value) (st:SS) {r:Value×SS} (h:zbf cc zix p' st=some r):cc 51 [p'] st=some r:=
 zaf (li:=zav) zah zal ziy rfl (fun _=>rfl) (.trans (by kernel_rfl) h)
noncomputable def zbN (cf:zak) (lf:zab) (p':Value) (l':Value) (st:SS):Option (Value×SS):=
 (cf 32 [p'] st).bind fun a=>
 ((zdD Lk0 98 4 a.1).bind (asI .i64)).bind fun b=>
 let c:SS:=a.2.new (.cells [.string ⟨#[]⟩,.int .i64 0,.string ⟨#[]⟩,.int .i64 0,.int .i64 0] 0)
 (c.st a.2.next 0 [.string ⟨#[]⟩,.int .i64 b,.string ⟨#[]⟩,.int .i64 0,.int .i64 0]).bind fun d=>
 (cf 32 [p'] d).bind fun e=>
 ((zdD Lk0 98 1 e.1).bind asS).bind fun f=>
 let g:SS:=e.2.new (.cells [.string ⟨#[]⟩] 0)
 (g.st e.2.next 0 [.string f]).bind fun h=>
 (cf 32 [p'] h).bind fun i=>
 ((zdD Lk0 98 0 i.1).bind (asI .i64)).bind fun j=>
 cond (!(decide (j=1))) (
 some (.bool false,i.2)) (
 (zaj l').bind fun k=>
 (addr? k).bind fun l=>
 (i.2.ld l.1 (l.2+4)).bind fun m=>
 (cf 72 [m,.func (.func 73) #[] #[ptr e.2.next 0]] i.2).bind fun n=>
 ((some n.1).bind asB).bind fun o=>
 cond o (
 some (.bool false,n.2)) (
 ((n.2.ld e.2.next 0).bind asS).bind fun p=>
 (n.2.st a.2.next 0 [.string p]).bind fun q=>
 (zaj p').bind fun r=>
 (addr? r).bind fun s=>
 ((q.ld s.1 (s.2+1)).bind (asI .i64)).bind fun t=>
 let u:Int:=IntKind.wrap .i64 (t+1)
 (zaj p').bind fun v=>
 (addr? v).bind fun w=>
 (q.st w.1 (w.2+1) [.int .i64 u]).bind fun x=>
 (cf 49 [p',.string ⟨#[61]⟩] x).bind fun y=>
 ((some y.1).bind asB).bind fun z=>
 cond (!z) (
 some (.bool false,y.2)) (
 (cf 51 [p'] y.2).bind fun A=>
 (zan A.1 0).bind fun B=>
 ((zan A.1 1).bind asB).bind fun C=>
 (A.2.stV a.2.next 2 3 B).bind fun D=>
 cond (!C) (
 some (.bool false,D)) (
 (zaj l').bind fun E=>
 (addr? E).bind fun F=>
 (D.ld F.1 (F.2+4)).bind fun G=>
 (D.ldN a.2.next 0 5).bind fun H=>
 (zaW H 5).bind fun I=>
 let J:SS:=D.new (.cells (I++([])) 5)
 (J.app 5 56 G (.slice (some ⟨D.next,0,none⟩) 1 1)).bind fun K=>
 (zaj l').bind fun L=>
 (addr? L).bind fun M=>
 (K.2.stV M.1 (M.2+4) 1 K.1).bind fun N=>
 some (.bool true,N)))))
noncomputable abbrev zi0:zab:=lS Tryz.prog Lk0 Tryz.f52 zav
theorem zi1:Lk0.func 52=some (52,Tryz.f52):=by kernel_rfl
theorem zbO [Sym] (p':Value) (l':Value) (st:SS) {r:Value×SS} (h:zbN cc zi0 p' l' st=some r):cc 52 [p',l'] st=some r:=
 zaf (li:=zav) zah zal zi1 rfl (fun _=>rfl) (.trans (by kernel_rfl) h)
def zeK:LoopI:=⟨[(0,.any),(2,.any),(4,.any)],[(.exit 2,[(2,.any),(4,.any)]),(.ret,[(2,.any),(3,.bool)])]⟩
def zeL:LoopI:=⟨[(0,.any),(2,.any),(4,.any)],[(.exit 0,[(2,.any),(4,.any)]),(.ret,[(2,.any),(3,.bool)])]⟩
def zfp (n:Nat):Option LoopI:=cond (Nat.beq n 11) (some zeL) (cond (Nat.beq n 17) (some zeK) (none))
noncomputable def zck (cf:zak) (lf:zab) (p':Value) (st:SS):Option (Value×SS):=
 let a:SS:=st.new (.cells [.int .i64 0,.string ⟨#[]⟩,.string ⟨#[]⟩,.slice none 0 0,.slice none 0 0] 0)
 (cf 32 [p'] a).bind fun b=>
 ((zdD Lk0 98 3 b.1).bind (asI .i64)).bind fun c=>
 let d:SS:=b.2.new (.cells [.int .i64 0,.string ⟨#[]⟩,.string ⟨#[]⟩,.slice none 0 0,.slice none 0 0] 0)
 (d.st b.2.next 0 [.int .i64 c,.string ⟨#[]⟩,.string ⟨#[]⟩,.slice none 0 0,.slice none 0 0]).bind fun e=>
 (cf 48 [p'] e).bind fun f=>
 let g:SS:=f.2.new (.cells [.int .i64 0,.string ⟨#[]⟩,.int .i64 0,.int .i64 0,.int .i64 0] 0)
 (g.stV f.2.next 0 5 f.1).bind fun h=>
 (cf 32 [p'] h).bind fun i=>
 ((zdD Lk0 98 0 i.1).bind (asI .i64)).bind fun j=>
 cond (decide (j=1)) (
 ((i.2.ld f.2.next 0).bind (asI .i64)).bind fun k=>
 cond (decide (k=3)) (
 ((i.2.ld f.2.next 1).bind asS).bind fun l=>
 cond (eqT l ⟨#[58]⟩) (
 (cf 32 [p'] i.2).bind fun m=>
 ((zdD Lk0 98 1 m.1).bind asS).bind fun n=>
 (m.2.st b.2.next 1 [.string n]).bind fun o=>
 (zaj p').bind fun p=>
 (addr? p).bind fun q=>
 ((o.ld q.1 (q.2+1)).bind (asI .i64)).bind fun r=>
 let s:Int:=IntKind.wrap .i64 (r+2)
 (zaj p').bind fun t=>
 (addr? t).bind fun u=>
 (o.st u.1 (u.2+1) [.int .i64 s]).bind fun v=>
 (cf 49 [p',.string ⟨#[46]⟩] v).bind fun w=>
 ((some w.1).bind asB).bind fun x=>
 cond x (
 (cf 50 [p'] w.2).bind fun y=>
 ((zan y.1 0).bind asS).bind fun z=>
 ((zan y.1 1).bind asB).bind fun A=>
 (y.2.st b.2.next 2 [.string z]).bind fun B=>
 cond (!A) (
 (B.ldN b.2.next 0 5).bind fun C=>
 (B.stV st.next 0 5 C).bind fun D=>
 (D.rdN st.next 0 5).bind fun E=>
 some (.tuple #[E,.bool false],D)) (
 (lf 11 [p',ptr st.next 0,ptr b.2.next 0] B).bind fun F=>
 cond (Nat.beq F.1 0) (
 (F.2.1[0]?).bind fun G=>
 (F.2.1[1]?).bind fun H=>
 (addr? H).bind fun I=>
 (F.2.2.ldN I.1 I.2 5).bind fun J=>
 (addr? G).bind fun K=>
 (F.2.2.stV K.1 K.2 5 J).bind fun L=>
 (addr? G).bind fun M=>
 (L.rdN M.1 M.2 5).bind fun N=>
 some (.tuple #[N,.bool true],L)) (
 (F.2.1[0]?).bind fun O=>
 ((F.2.1[1]?).bind asB).bind fun P=>
 (addr? O).bind fun Q=>
 (F.2.2.rdN Q.1 Q.2 5).bind fun R=>
 some (.tuple #[R,.bool P],F.2.2)))) (
 (lf 17 [p',ptr st.next 0,ptr b.2.next 0] w.2).bind fun S=>
 cond (Nat.beq S.1 0) (
 (S.2.1[0]?).bind fun T=>
 (S.2.1[1]?).bind fun U=>
 (addr? U).bind fun V=>
 (S.2.2.ldN V.1 V.2 5).bind fun W=>
 (addr? T).bind fun X=>
 (S.2.2.stV X.1 X.2 5 W).bind fun Y=>
 (addr? T).bind fun Z=>
 (Y.rdN Z.1 Z.2 5).bind fun aA=>
 some (.tuple #[aA,.bool true],Y)) (
 (S.2.1[0]?).bind fun aB=>
 ((S.2.1[1]?).bind asB).bind fun aC=>
 (addr? aB).bind fun aD=>
 (S.2.2.rdN aD.1 aD.2 5).bind fun aE=>
 some (.tuple #[aE,.bool aC],S.2.2)))) (
 (cf 49 [p',.string ⟨#[46]⟩] i.2).bind fun aF=>
 ((some aF.1).bind asB).bind fun aG=>
 cond aG (
 (cf 50 [p'] aF.2).bind fun aH=>
 ((zan aH.1 0).bind asS).bind fun aI=>
 ((zan aH.1 1).bind asB).bind fun aJ=>
 (aH.2.st b.2.next 2 [.string aI]).bind fun aK=>
 cond (!aJ) (
 (aK.ldN b.2.next 0 5).bind fun aL=>
 (aK.stV st.next 0 5 aL).bind fun aM=>
 (aM.rdN st.next 0 5).bind fun aN=>
 some (.tuple #[aN,.bool false],aM)) (
 (lf 11 [p',ptr st.next 0,ptr b.2.next 0] aK).bind fun aO=>
 cond (Nat.beq aO.1 0) (
 (aO.2.1[0]?).bind fun aP=>
 (aO.2.1[1]?).bind fun aQ=>
 (addr? aQ).bind fun aR=>
 (aO.2.2.ldN aR.1 aR.2 5).bind fun aS=>
 (addr? aP).bind fun aT=>
 (aO.2.2.stV aT.1 aT.2 5 aS).bind fun aU=>
 (addr? aP).bind fun aV=>
 (aU.rdN aV.1 aV.2 5).bind fun aW=>
 some (.tuple #[aW,.bool true],aU)) (
 (aO.2.1[0]?).bind fun aX=>
 ((aO.2.1[1]?).bind asB).bind fun aY=>
 (addr? aX).bind fun aZ=>
 (aO.2.2.rdN aZ.1 aZ.2 5).bind fun bA=>
 some (.tuple #[bA,.bool aY],aO.2.2)))) (
 (lf 17 [p',ptr st.next 0,ptr b.2.next 0] aF.2).bind fun bB=>
 cond (Nat.beq bB.1 0) (
 (bB.2.1[0]?).bind fun bC=>
 (bB.2.1[1]?).bind fun bD=>
 (addr? bD).bind fun bE=>
 (bB.2.2.ldN bE.1 bE.2 5).bind fun bF=>
 (addr? bC).bind fun bG=>
 (bB.2.2.stV bG.1 bG.2 5 bF).bind fun bH=>
 (addr? bC).bind fun bI=>
 (bH.rdN bI.1 bI.2 5).bind fun bJ=>
 some (.tuple #[bJ,.bool true],bH)) (
 (bB.2.1[0]?).bind fun bK=>
 ((bB.2.1[1]?).bind asB).bind fun bL=>
 (addr? bK).bind fun bM=>
 (bB.2.2.rdN bM.1 bM.2 5).bind fun bN=>
 some (.tuple #[bN,.bool bL],bB.2.2))))) (
 (cf 49 [p',.string ⟨#[46]⟩] i.2).bind fun bO=>
 ((some bO.1).bind asB).bind fun bP=>
 cond bP (
 (cf 50 [p'] bO.2).bind fun bQ=>
 ((zan bQ.1 0).bind asS).bind fun bR=>
 ((zan bQ.1 1).bind asB).bind fun bS=>
 (bQ.2.st b.2.next 2 [.string bR]).bind fun bT=>
 cond (!bS) (
 (bT.ldN b.2.next 0 5).bind fun bU=>
 (bT.stV st.next 0 5 bU).bind fun bV=>
 (bV.rdN st.next 0 5).bind fun bW=>
 some (.tuple #[bW,.bool false],bV)) (
 (lf 11 [p',ptr st.next 0,ptr b.2.next 0] bT).bind fun bX=>
 cond (Nat.beq bX.1 0) (
 (bX.2.1[0]?).bind fun bY=>
 (bX.2.1[1]?).bind fun bZ=>
 (addr? bZ).bind fun cA=>
 (bX.2.2.ldN cA.1 cA.2 5).bind fun cB=>
 (addr? bY).bind fun cC=>
 (bX.2.2.stV cC.1 cC.2 5 cB).bind fun cD=>
 (addr? bY).bind fun cE=>
 (cD.rdN cE.1 cE.2 5).bind fun cF=>
 some (.tuple #[cF,.bool true],cD)) (
 (bX.2.1[0]?).bind fun cG=>
 ((bX.2.1[1]?).bind asB).bind fun cH=>
 (addr? cG).bind fun cI=>
 (bX.2.2.rdN cI.1 cI.2 5).bind fun cJ=>
 some (.tuple #[cJ,.bool cH],bX.2.2)))) (
 (lf 17 [p',ptr st.next 0,ptr b.2.next 0] bO.2).bind fun cK=>
 cond (Nat.beq cK.1 0) (
 (cK.2.1[0]?).bind fun cL=>
 (cK.2.1[1]?).bind fun cM=>
 (addr? cM).bind fun cN=>
 (cK.2.2.ldN cN.1 cN.2 5).bind fun cO=>
 (addr? cL).bind fun cP=>
 (cK.2.2.stV cP.1 cP.2 5 cO).bind fun cQ=>
 (addr? cL).bind fun cR=>
 (cQ.rdN cR.1 cR.2 5).bind fun cS=>
 some (.tuple #[cS,.bool true],cQ)) (
 (cK.2.1[0]?).bind fun cT=>
 ((cK.2.1[1]?).bind asB).bind fun cU=>
 (addr? cT).bind fun cV=>
 (cK.2.2.rdN cV.1 cV.2 5).bind fun cW=>
 some (.tuple #[cW,.bool cU],cK.2.2))))) (
 (cf 49 [p',.string ⟨#[46]⟩] i.2).bind fun cX=>
 ((some cX.1).bind asB).bind fun cY=>
 cond cY (
 (cf 50 [p'] cX.2).bind fun cZ=>
 ((zan cZ.1 0).bind asS).bind fun dA=>
 ((zan cZ.1 1).bind asB).bind fun dB=>
 (cZ.2.st b.2.next 2 [.string dA]).bind fun dC=>
 cond (!dB) (
 (dC.ldN b.2.next 0 5).bind fun dD=>
 (dC.stV st.next 0 5 dD).bind fun dE=>
 (dE.rdN st.next 0 5).bind fun dF=>
 some (.tuple #[dF,.bool false],dE)) (
 (lf 11 [p',ptr st.next 0,ptr b.2.next 0] dC).bind fun dG=>
 cond (Nat.beq dG.1 0) (
 (dG.2.1[0]?).bind fun dH=>
 (dG.2.1[1]?).bind fun dI=>
 (addr? dI).bind fun dJ=>
 (dG.2.2.ldN dJ.1 dJ.2 5).bind fun dK=>
 (addr? dH).bind fun dL=>
 (dG.2.2.stV dL.1 dL.2 5 dK).bind fun dM=>
 (addr? dH).bind fun dN=>
 (dM.rdN dN.1 dN.2 5).bind fun dO=>
 some (.tuple #[dO,.bool true],dM)) (
 (dG.2.1[0]?).bind fun dP=>
 ((dG.2.1[1]?).bind asB).bind fun dQ=>
 (addr? dP).bind fun dR=>
 (dG.2.2.rdN dR.1 dR.2 5).bind fun dS=>
 some (.tuple #[dS,.bool dQ],dG.2.2)))) (
 (lf 17 [p',ptr st.next 0,ptr b.2.next 0] cX.2).bind fun dT=>
 cond (Nat.beq dT.1 0) (
 (dT.2.1[0]?).bind fun dU=>
 (dT.2.1[1]?).bind fun dV=>
 (addr? dV).bind fun dW=>
 (dT.2.2.ldN dW.1 dW.2 5).bind fun dX=>
 (addr? dU).bind fun dY=>
 (dT.2.2.stV dY.1 dY.2 5 dX).bind fun dZ=>
 (addr? dU).bind fun gA=>
 (dZ.rdN gA.1 gA.2 5).bind fun gB=>
 some (.tuple #[gB,.bool true],dZ)) (
 (dT.2.1[0]?).bind fun gC=>
 ((dT.2.1[1]?).bind asB).bind fun gD=>
 (addr? gC).bind fun gE=>
 (dT.2.2.rdN gE.1 gE.2 5).bind fun gF=>
 some (.tuple #[gF,.bool gD],dT.2.2))))
noncomputable abbrev zaH:zab:=lS Tryz.prog Lk0 Tryz.f31 zfp
theorem zi2:Lk0.func 31=some (31,Tryz.f31):=by kernel_rfl
theorem zfq [Sym] (p':Value) (st:SS) {r:Value×SS} (h:zck cc zaH p' st=some r):cc 31 [p'] st=some r:=
 zaf (li:=zfp) zah zal zi2 rfl (fun _=>rfl) (.trans (by kernel_rfl) h)
noncomputable def zcd (cf:zak) (lf:zab) (p':Value) (t2':Value) (l':Value) (st:SS):Option (Nat×List Value×SS):=
 (cf 32 [p'] st).bind fun a=>
 ((zdD Lk0 98 0 a.1).bind (asI .i64)).bind fun b=>
 cond (!(decide (b=0))) (
 (cf 51 [p'] a.2).bind fun c=>
 (zan c.1 0).bind fun d=>
 ((zan c.1 1).bind asB).bind fun e=>
 let f:SS:=c.2.new (.cells [.string ⟨#[]⟩,.int .i64 0,.int .i64 0] 0)
 (f.stV c.2.next 0 3 d).bind fun g=>
 cond (!e) (
 (addr? l').bind fun h=>
 (g.ldN h.1 h.2 5).bind fun i=>
 (addr? t2').bind fun j=>
 (g.stV j.1 j.2 5 i).bind fun k=>
 some (1,[t2',.bool false],k)) (
 (addr? l').bind fun l=>
 (g.ld l.1 (l.2+3)).bind fun m=>
 (g.ldN c.2.next 0 3).bind fun n=>
 (zaW n 3).bind fun o=>
 let p:SS:=g.new (.cells (o++([])) 3)
 (p.app 3 32 m (.slice (some ⟨g.next,0,none⟩) 1 1)).bind fun q=>
 (addr? l').bind fun r=>
 (q.2.stV r.1 (r.2+3) 1 q.1).bind fun s=>
 lf 11 [p',t2',l'] s)) (
 some (0,[t2',l'],a.2))
theorem zcC [Sym] (p':Value) (t2':Value) (l':Value) (st:SS) {r:Nat×List Value×SS} (h:zcd cc zaH p' t2' l' st=some r):zaH 11 [p',t2',l'] st=some r:=
 zay zah zal (key:=11) (I:=zeL) rfl (by kernel_rfl) (by kernel_rfl) rfl rfl (.trans (by kernel_rfl) h)
noncomputable def zce (cf:zak) (lf:zab) (p':Value) (t2':Value) (l':Value) (st:SS):Option (Nat×List Value×SS):=
 (cf 32 [p'] st).bind fun a=>
 ((zdD Lk0 98 0 a.1).bind (asI .i64)).bind fun b=>
 cond (!(decide (b=0))) (
 (cf 52 [p',l'] a.2).bind fun c=>
 ((some c.1).bind asB).bind fun d=>
 cond (!d) (
 (addr? l').bind fun e=>
 (c.2.ldN e.1 e.2 5).bind fun f=>
 (addr? t2').bind fun g=>
 (c.2.stV g.1 g.2 5 f).bind fun h=>
 some (1,[t2',.bool false],h)) (
 lf 17 [p',t2',l'] c.2)) (
 some (0,[t2',l'],a.2))
theorem zcD [Sym] (p':Value) (t2':Value) (l':Value) (st:SS) {r:Nat×List Value×SS} (h:zce cc zaH p' t2' l' st=some r):zaH 17 [p',t2',l'] st=some r:=
 zay zah zal (key:=17) (I:=zeK) rfl (by kernel_rfl) (by kernel_rfl) rfl rfl (.trans (by kernel_rfl) h)
def zhB:LoopI:=⟨[(3,.any),(5,.any),(8,.any),(9,.any)],[(.exit 0,[(3,.any),(9,.any)]),(.ret,[(2,.any),(3,.any),(4,.int .i64)])]⟩
def zic (n:Nat):Option LoopI:=cond (Nat.beq n 6) (some zhB) (none)
noncomputable def zfA (cf:zak) (lf:zab) (text':ByteArray) (st:SS):Option (Value×SS):=
 let a:SS:=st.new (.cells [.int .i64 0,.int .i64 0] 0)
 (cf 30 [.string text'] a).bind fun b=>
 (zan b.1 0).bind fun c=>
 (zan b.1 1).bind fun d=>
 ((zan b.1 2).bind (asI .i64)).bind fun e=>
 let f:SS:=b.2.new (.cells [.int .i64 0,.int .i64 0] 0)
 (f.stV b.2.next 0 2 d).bind fun g=>
 cond (!(decide (e=0))) (
 (g.ldN b.2.next 0 2).bind fun h=>
 (g.stV st.next 0 2 h).bind fun i=>
 (i.rdN st.next 0 2).bind fun j=>
 some (.tuple #[.slice none 0 0,j,.int .i64 e],i)) (
 (zaW c 1).bind fun k=>
 let l:SS:=g.new (.cells (.agg ⟨spl [.slice none 0 0,.int .i64 0] 0 k⟩:Value).cells.toList 0)
 (lf 6 [ptr st.next 0,c,ptr g.next 0,.slice none 0 0] l).bind fun m=>
 cond (Nat.beq m.1 0) (
 (m.2.1[0]?).bind fun n=>
 (m.2.1[1]?).bind fun o=>
 (addr? n).bind fun p=>
 (m.2.2.st p.1 p.2 [.int .i64 0,.int .i64 0]).bind fun q=>
 (addr? n).bind fun r=>
 (q.rdN r.1 r.2 2).bind fun s=>
 some (.tuple #[o,s,.int .i64 0],q)) (
 (m.2.1[0]?).bind fun t=>
 (m.2.1[1]?).bind fun u=>
 ((m.2.1[2]?).bind (asI .i64)).bind fun v=>
 (addr? u).bind fun w=>
 (m.2.2.rdN w.1 w.2 2).bind fun x=>
 some (.tuple #[t,x,.int .i64 v],m.2.2)))
noncomputable abbrev zbG:zab:=lS Tryz.prog Lk0 Tryz.f15 zic
theorem znE:Lk0.func 15=some (15,Tryz.f15):=by kernel_rfl
theorem zfB [Sym] (text':ByteArray) (st:SS) {r:Value×SS} (h:zfA cc zbG text' st=some r):cc 15 [.string text'] st=some r:=
 zaf (li:=zic) zah zal znE rfl (fun _=>rfl) (.trans (by kernel_rfl) h)
noncomputable def zbY (cf:zak) (lf:zab) (t3':Value) (tokens':Value) (p':Value) (out':Value) (st:SS):Option (Nat×List Value×SS):=
 (zaj p').bind fun a=>
 (addr? a).bind fun b=>
 ((st.ld b.1 (b.2+1)).bind (asI .i64)).bind fun c=>
 ((lenV tokens').bind (asI .i64)).bind fun d=>
 cond (decide (c<d)) (
 (cf 31 [p'] st).bind fun e=>
 (zan e.1 0).bind fun f=>
 ((zan e.1 1).bind asB).bind fun g=>
 let h:SS:=e.2.new (.cells [.int .i64 0,.string ⟨#[]⟩,.string ⟨#[]⟩,.slice none 0 0,.slice none 0 0] 0)
 (h.stV e.2.next 0 5 f).bind fun i=>
 cond (!g) (
 (cf 32 [p'] i).bind fun j=>
 ((zdD Lk0 98 3 j.1).bind (asI .i64)).bind fun k=>
 (cf 32 [p'] j.2).bind fun l=>
 ((zdD Lk0 98 4 l.1).bind (asI .i64)).bind fun m=>
 (addr? t3').bind fun n=>
 (l.2.st n.1 n.2 [.int .i64 k,.int .i64 m]).bind fun o=>
 some (1,[.slice none 0 0,t3',.int .i64 4],o)) (
 (zaj p').bind fun p=>
 (addr? p).bind fun q=>
 ((i.ld q.1 (q.2+1)).bind (asI .i64)).bind fun r=>
 let s:Int:=IntKind.wrap .i64 (r+1)
 (zaj p').bind fun t=>
 (addr? t).bind fun u=>
 (i.st u.1 (u.2+1) [.int .i64 s]).bind fun v=>
 ((v.ld e.2.next 1).bind asS).bind fun w=>
 cond (!(eqT w ⟨#[]⟩)) (
 (v.ldN e.2.next 0 5).bind fun x=>
 (zaW x 5).bind fun y=>
 let z:SS:=v.new (.cells (y++([])) 5)
 (z.app 5 88 out' (.slice (some ⟨v.next,0,none⟩) 1 1)).bind fun A=>
 lf 6 [t3',tokens',p',A.1] A.2) (
 ((v.ld e.2.next 2).bind asS).bind fun B=>
 cond (!(eqT B ⟨#[]⟩)) (
 (v.ldN e.2.next 0 5).bind fun C=>
 (zaW C 5).bind fun D=>
 let E:SS:=v.new (.cells (D++([])) 5)
 (E.app 5 88 out' (.slice (some ⟨v.next,0,none⟩) 1 1)).bind fun F=>
 lf 6 [t3',tokens',p',F.1] F.2) (
 (v.ld e.2.next 4).bind fun G=>
 ((lenV G).bind (asI .i64)).bind fun H=>
 cond (decide (0<H)) (
 (v.ldN e.2.next 0 5).bind fun I=>
 (zaW I 5).bind fun J=>
 let K:SS:=v.new (.cells (J++([])) 5)
 (K.app 5 88 out' (.slice (some ⟨v.next,0,none⟩) 1 1)).bind fun L=>
 lf 6 [t3',tokens',p',L.1] L.2) (
 lf 6 [t3',tokens',p',out'] v))))) (
 some (0,[t3',out'],st))
theorem zc2 [Sym] (t3':Value) (tokens':Value) (p':Value) (out':Value) (st:SS) {r:Nat×List Value×SS} (h:zbY cc zbG t3' tokens' p' out' st=some r):zbG 6 [t3',tokens',p',out'] st=some r:=
 zay zah zal (key:=6) (I:=zhB) rfl (by kernel_rfl) (by kernel_rfl) rfl rfl (.trans (by kernel_rfl) h)
end Go.Proofs.YtcplfckncandkaaGreatDoorE
namespace Go.Proofs.YtcplfckncandkaaGreatDoorE
open Go Go.E Go.Proofs
theorem zaw (b k:Nat):zaj (ptr b k)=some (ptr b k):=rfl
structure PHas (st:SS) (b:Nat) (v:Value) (us:List (Nat×Tok)) (i:Nat):Prop where
 mem:st.mem.get b=some (.cells [v,.int .i64 i] 0)
 lt:b<st.next
 rd:Rd st v (rowsL us) 5 us.length
 sz:us.length≤1099511627776
theorem PHas.ext {st st':SS} {b i:Nat} {v:Value} {us:List (Nat×Tok)} (h:PHas st b v us i) (x:Ext st st'):PHas st' b v us i:=
 ⟨x.get h.lt h.mem,zll h.lt x.next,h.rd.ext x,h.sz⟩
theorem PHas.ro {st:SS} {b i n:Nat} {v:Value} {us:List (Nat×Tok)} (h:PHas st b v us i):PHas (st.ro n) b v us i:=⟨h.mem,h.lt,h.rd,h.sz⟩
structure PAt (st:SS) (b:Nat) (v:Value) (us:List (Nat×Tok)) (i:Nat):Prop where
 blk:At st b [v,.int .i64 i]
 rd:Rd st v (rowsL us) 5 us.length
 vb:∀ j k l q,v=.slice (some ⟨j,k,none⟩) l q→j<b
 sz:us.length≤1099511627776
 ll:st.lim≤st.next
section
variable {S : List Nat} {st st' : SS} {b i : Nat} {v : Value} {us : List (Nat × Tok)}
theorem PAt.has (h:PAt st b v us i):PHas st b v us i:=⟨h.blk.mem,h.blk.lt,h.rd,h.sz⟩
theorem PAt.mod (h:PAt st b v us i) (m:Mod S st st') (hS:∀ j,j∈S→b<j):PAt st' b v us i:=
 ⟨h.blk.mod m (fun hm=>by have:=hS b hm;omega),h.rd.mod m (fun j k l q e hm=>by have:=hS j hm;have:=h.vb j k l q e;omega),h.vb,h.sz,m.ll h.ll⟩
theorem PAt.ext (h:PAt st b v us i) (x:Ext st st'):PAt st' b v us i:=h.mod (S:=[]) (.ofExt x) (fun _ hj=>by cases hj)
theorem PAt.modI {j:Nat} (h:PAt st b v us i) (m:Mod [j] st st') (hj:b<j):PAt st' b v us i:=h.mod m fun k hk=>(show k=j by simpa using hk) ▸ hj
theorem PAt.move (h:PAt st b v us i) (i':Nat):∃ st',st.st b 1 [.int .i64 i']=some st'∧PAt st' b v us i'∧Mod [b] st st'∧st'.next=st.next:=by
 obtain ⟨st',e,a,m,n⟩:=h.blk.sto (k:=1) (vs:=[.int .i64 i']) (row':=[v,.int .i64 i']) rfl rfl
 exact ⟨st',e,⟨a,h.rd.mod m (fun j k l q e hm=>by have:j=b:=by simpa using hm
                                                  have:=h.vb j k l q e;omega),h.vb,h.sz,m.ll h.ll⟩,m,n⟩
end
abbrev Z5:List Value:=[.int .i64 0,.string ⟨#[]⟩,.int .i64 0,.int .i64 0,.int .i64 0]
theorem zcy [Sym] {st:SS} {b i:Nat} {v:Value} {us:List (Nat×Tok)} (h:PHas st b v us i) {t:Nat×Tok} (ht:us[i]?=some t):
  ∃ n,st.next≤n∧cc 32 [ptr b 0] st=some (.agg (za6 t.1 t.2).toArray,st.adv n):=by
 obtain ⟨st10,e10,a10,x10,_⟩:=zaV (st:=st.ro st.next) (zlr _) (r:=Z5) (zaG (za6 t.1 t.2)) (n:=5) rfl rfl rfl
 have h1:=(h.ro (n:=st.next)).ext ((Ext.refl (st.ro st.next)).new (.cells Z5 0))
 have hlt:(i:Int)<(us.length:Int):=by have:=(List.getElem?_eq_some_iff.1 ht).1;omega
 obtain ⟨q,b1,b2,_⟩:=h1.rd.load (j:=(i:Int)) (by omega) hlt (zia us i t ht) rfl
 have l0:((st.ro st.next).new (.cells Z5 0)).ld b 0=some v:=by rw [SS.ld_cells h1.mem];rfl
 have l1:((st.ro st.next).new (.cells Z5 0)).ld b 1=some (.int .i64 i):=by rw [SS.ld_cells h1.mem];rfl
 have hr:st10.rdN (st.ro st.next).next 0 5=some (.agg (za6 t.1 t.2).toArray):=a10.rdN rfl
 refine ⟨st10.next,x10.next,zjN _ st ?_⟩
 have e10':((st.ro st.next).new (.cells Z5 0)).stV st.next 0 5 (.agg (za6 t.1 t.2).toArray)=some st10:=e10
 have hr':st10.rdN st.next 0 5=some (.agg (za6 t.1 t.2).toArray):=hr
 simp only [zgJ,SS.ro_next,zaw,zob,zad,l0,Nat.zero_add,l1,zaa,b1,b2,e10',hr']
 rfl
theorem zcL {ln:Nat} {t:Tok}:(zdD Lk0 98 0 (.agg (za6 ln t).toArray)).bind (asI .i64)=some (t.kd:Int)∧(zdD Lk0 98 1 (.agg (za6 ln t).toArray)).bind asS=some (mkS t.tx)∧
  (zdD Lk0 98 3 (.agg (za6 ln t).toArray)).bind (asI .i64)=some (ln:Int)∧(zdD Lk0 98 4 (.agg (za6 ln t).toArray)).bind (asI .i64)=some (t.col:Int):=⟨by kernel_rfl,by kernel_rfl,by kernel_rfl,by kernel_rfl⟩
theorem zxf [Sym] {st:SS} {b i:Nat} {v:Value} {us:List (Nat×Tok)} (h:PHas st b v us i) {t u:Nat×Tok} (ht:us[i]?=some t) (hu:us[if t.2.kd=0 then i else i+1]?=some u):
  ∃ n,st.next≤n∧cc 48 [ptr b 0] st=some (.agg (za6 u.1 u.2).toArray,st.adv n):=by
 have h1:=(h.ro (n:=st.next)).ext ((Ext.refl (st.ro st.next)).new (.cells Z5 0))
 obtain ⟨n,hn,c1⟩:=zcy h1 ht
 have a0:At ((st.ro st.next).new (.cells Z5 0)) st.next Z5:=At.new (st:=st.ro st.next) (zlr _) Z5
 have h2:=h1.ext (Ext.advR _ hn)
 have a2:=a0.adv hn
 by_cases hk:t.2.kd=0
 ·rw [if_pos hk,ht] at hu
  cases hu
  obtain ⟨m,hm,c2⟩:=zcy h2 ht
  have a3:=a2.adv hm
  obtain ⟨st5,e5,a5,m5,n5⟩:=a3.stV (k:=0) (zaG (za6 t.1 t.2)) (n:=5) rfl rfl (row':=za6 t.1 t.2) rfl
  have hr:st5.rdN st.next 0 5=some (.agg (za6 t.1 t.2).toArray):=a5.rdN rfl
  have hk':(t.2.kd:Int)=0:=by omega
  have hle:st.next≤st5.next:=by rw [n5];simp at hn hm ⊢;omega
  refine ⟨st5.next,hle,zfn _ st ?_⟩
  simp only [zem,SS.ro_next,c1,c2,zob,zcL.1,zdt hk',zct,e5,hr]
  rfl
 ·rw [if_neg hk] at hu
  have hlt:((i+1:Nat):Int)<(us.length:Int):=by have:=(List.getElem?_eq_some_iff.1 hu).1;omega
  obtain ⟨q,b1,b2,_⟩:=h2.rd.load (j:=((i+1:Nat):Int)) (by omega) hlt (zia us (i+1) u hu) rfl
  have hk':¬ (t.2.kd:Int)=0:=by omega
  obtain ⟨st5,e5,a5,m5,n5⟩:=a2.stV (k:=0) (zaG (za6 u.1 u.2)) (n:=5) rfl rfl (row':=za6 u.1 u.2) rfl
  have hr:st5.rdN st.next 0 5=some (.agg (za6 u.1 u.2).toArray):=a5.rdN rfl
  have l0:(((st.ro st.next).new (.cells Z5 0)).adv n).ld b 0=some v:=by rw [SS.ld_cells h2.mem];rfl
  have l1:(((st.ro st.next).new (.cells Z5 0)).adv n).ld b 1=some (.int .i64 i):=by rw [SS.ld_cells h2.mem];rfl
  have hw:IntKind.wrap .i64 ((i:Int)+1)=((i+1:Nat):Int):=by have:=h.sz;rw [wrap64 (by omega) (by omega)];omega
  have hle:st.next≤st5.next:=by rw [n5];simp at hn ⊢;omega
  refine ⟨st5.next,hle,zfn _ st ?_⟩
  simp only [zem,SS.ro_next,c1,zob,zcL.1,zdf hk',zcf,zaw,zad,l0,Nat.zero_add,l1,zaa,hw,b1,b2,e5,hr]
  rfl
theorem zox {st:SS} {n:Nat} (hl:st.lim≤n) (t:Nat×Tok):∃ st',((st.adv n).new (.cells Z5 0)).stV n 0 5 (.agg (za6 t.1 t.2).toArray)=some st'∧At st' n (za6 t.1 t.2)∧Ext (st.adv n) st':=by
 obtain ⟨st',a,b,c,_⟩:=zaV (st:=st.adv n) hl (r:=Z5) (zaG (za6 t.1 t.2)) (n:=5) rfl rfl rfl
 exact ⟨st',a,b,c⟩
theorem zcW (a b:List UInt8):eqT (mkS a) (mkS b)=decide (a=b):=by rw [zhx,zbI,zbI]
theorem zjO [Sym] {st:SS} {b i:Nat} {v:Value} {us:List (Nat×Tok)} (h:PAt st b v us i) {t:Nat×Tok} (ht:us[i]?=some t) (sg:List UInt8):
  ∃ st',cc 49 [ptr b 0,.string (mkS sg)] st=some (.bool (zaM t.2 sg),st')∧Mod [b] st st'∧PAt st' b v us (if zaM t.2 sg=true then i+1 else i):=by
 obtain ⟨n,hn,h1⟩:=zcy h.has ht
 obtain ⟨st3,e3,a3,x3⟩:=zox (st:=st) (n:=n) (zlt h.ll hn) t
 have x:Ext st st3:=(Ext.advR st hn).trans x3
 have hp:=h.ext x
 have k0:st3.ld n 0=some (.int .i64 t.2.kd):=a3.ld
 have k1:st3.ld n 1=some (.string (mkS t.2.tx)):=a3.ld
 have hi:=(List.getElem?_eq_some_iff.1 ht).1
 have hsz:=h.sz
 by_cases hk:t.2.kd=3
 ·have hk':(t.2.kd:Int)=3:=by omega
  by_cases hx:t.2.tx=sg
  ·have hs:zaM t.2 sg=true:=by simp [zaM,hk,hx]
   obtain ⟨st4,e4,p4,m4,_⟩:=hp.move (i+1)
   have hl1:st3.ld b 1=some (.int .i64 i):=hp.blk.ld
   rw [hs]
   refine ⟨st4,zdc _ _ st ?_,(Mod.ofExt x).then m4,p4⟩
   simp only [zcR,h1,zob,SS.adv_next,e3,k0,k1,zaa,zac,zdt hk',znt,zcf,zcW,zdt hx,zaw,zad,Nat.zero_add,hl1,zaX (show i≤1099511627776 by omega),e4]
  ·have hs:zaM t.2 sg=false:=by simp [zaM,hk,hx]
   rw [hs]
   refine ⟨st3,zdc _ _ st ?_,.ofExt x,hp⟩
   simp only [zcR,h1,zob,SS.adv_next,e3,k0,k1,zaa,zac,zdt hk',znt,zcf,zcW,zdf hx,znf,zct]
 ·have hk':¬ (t.2.kd:Int)=3:=by omega
  have hs:zaM t.2 sg=false:=by simp [zaM,hk]
  rw [hs]
  refine ⟨st3,zdc _ _ st ?_,.ofExt x,hp⟩
  simp only [zcR,h1,zob,SS.adv_next,e3,k0,zaa,zdf hk',znf,zct]
theorem zr7 [Sym] {st:SS} {b i:Nat} {v:Value} {us:List (Nat×Tok)} (h:PAt st b v us i) {t:Nat×Tok} (ht:us[i]?=some t):
  ∃ st',cc 50 [ptr b 0] st=some (.tuple #[.string (mkS (if t.2.kd=1 then t.2.tx else [])),.bool (decide (t.2.kd=1))],st')∧Mod [b] st st'∧PAt st' b v us (if t.2.kd=1 then i+1 else i):=by
 obtain ⟨n,hn,h1⟩:=zcy h.has ht
 obtain ⟨st3,e3,a3,x3⟩:=zox (st:=st) (n:=n) (zlt h.ll hn) t
 have x:Ext st st3:=(Ext.advR st hn).trans x3
 have hp:=h.ext x
 have k0:st3.ld n 0=some (.int .i64 t.2.kd):=a3.ld
 have hi:=(List.getElem?_eq_some_iff.1 ht).1
 have hsz:=h.sz
 by_cases hk:t.2.kd=1
 ·have hk':(t.2.kd:Int)=1:=by omega
  obtain ⟨st4,e4,p4,m4,_⟩:=hp.move (i+1)
  have hl1:st3.ld b 1=some (.int .i64 i):=hp.blk.ld
  have hne:n≠b:=by have:=h.blk.lt;omega
  have k1:st4.ld n 1=some (.string (mkS t.2.tx)):=(a3.mod m4 (by simpa using hne)).ld
  rw [if_pos hk,if_pos hk,zdt hk]
  refine ⟨st4,zfo _ st ?_,(Mod.ofExt x).then m4,p4⟩
  simp only [zen,h1,zob,SS.adv_next,e3,k0,zaa,zdt hk',znt,zcf,zaw,zad,Nat.zero_add,hl1,zaX (show i≤1099511627776 by omega),e4,k1,zac]
 ·have hk':¬ (t.2.kd:Int)=1:=by omega
  rw [if_neg hk,if_neg hk,zdf hk]
  refine ⟨st3,zfo _ st ?_,.ofExt x,hp⟩
  simp only [zen,h1,zob,SS.adv_next,e3,k0,zaa,zdf hk',znf,zct]
  rfl
theorem zjP [Sym] {st:SS} {b i:Nat} {v:Value} {us:List (Nat×Tok)} (h:PAt st b v us i) {t:Nat×Tok} (ht:us[i]?=some t):
  ∃ st',cc 71 [ptr b 0] st=some (.tuple #[.int .i64 (if t.2.kd=2 then t.2.nm else 0),.bool (decide (t.2.kd=2))],st')∧Mod [b] st st'∧PAt st' b v us (if t.2.kd=2 then i+1 else i):=by
 obtain ⟨n,hn,h1⟩:=zcy h.has ht
 obtain ⟨st3,e3,a3,x3⟩:=zox (st:=st) (n:=n) (zlt h.ll hn) t
 have x:Ext st st3:=(Ext.advR st hn).trans x3
 have hp:=h.ext x
 have k0:st3.ld n 0=some (.int .i64 t.2.kd):=a3.ld
 have hi:=(List.getElem?_eq_some_iff.1 ht).1
 have hsz:=h.sz
 by_cases hk:t.2.kd=2
 ·have hk':(t.2.kd:Int)=2:=by omega
  obtain ⟨st4,e4,p4,m4,_⟩:=hp.move (i+1)
  have hl1:st3.ld b 1=some (.int .i64 i):=hp.blk.ld
  have hne:n≠b:=by have:=h.blk.lt;omega
  have k1:st4.ld n 2=some (.int .i64 t.2.nm):=(a3.mod m4 (by simpa using hne)).ld
  rw [if_pos hk,if_pos hk,zdt hk]
  refine ⟨st4,zeJ _ st ?_,(Mod.ofExt x).then m4,p4⟩
  simp only [zdK,h1,zob,SS.adv_next,e3,k0,zaa,zdt hk',znt,zcf,zaw,zad,Nat.zero_add,hl1,zaX (show i≤1099511627776 by omega),e4,k1]
 ·have hk':¬ (t.2.kd:Int)=2:=by omega
  rw [if_neg hk,if_neg hk,zdf hk]
  refine ⟨st3,zeJ _ st ?_,.ofExt x,hp⟩
  simp only [zdK,h1,zob,SS.adv_next,e3,k0,zaa,zdf hk',znf,zct]
structure LineAt (us:List (Nat×Tok)) (i ln:Nat) (l:List Tok):Prop where
 drop:∃ rest,us.drop i=(l.map fun t=>(ln,t))++rest
 lin:Lin l
 ok:∀ t∈l,TokOk t
theorem LineAt.head {us:List (Nat×Tok)} {i ln:Nat} {t:Tok} {r:List Tok} (h:LineAt us i ln (t::r)):us[i]?=some (ln,t):=by
 obtain ⟨rest,hr⟩:=h.drop
 have:=congrArg (·[0]?) hr
 simpa using this
theorem LineAt.tail {us:List (Nat×Tok)} {i ln:Nat} {t:Tok} {r:List Tok} (h:LineAt us i ln (t::r)) (hk:t.kd≠0):LineAt us (i+1) ln r:=by
 refine ⟨?_,h.lin.tail hk,fun u hu=>h.ok u (List.mem_cons_of_mem _ hu)⟩
 obtain ⟨rest,hr⟩:=h.drop
 refine ⟨rest,?_⟩
 have:=drop_cons h.head
 rw [hr] at this
 exact (List.cons.inj this).2.symm
theorem LineAt.tok {us:List (Nat×Tok)} {i ln:Nat} {t:Tok} {r:List Tok} (h:LineAt us i ln (t::r)):TokOk t:=h.ok t (List.mem_cons_self ..)
end Go.Proofs.YtcplfckncandkaaGreatDoorE
namespace Go.Proofs.YtcplfckncandkaaGreatDoorE
set_option maxRecDepth 20000
open Go Go.E Go.Proofs
noncomputable def zsS (cf:zak) (lf:zab) (st:SS):Option (Value×SS):=
 let st1:SS:=st.new (.cells ([.string ⟨#[102,101,116,99,104]⟩,.string ⟨#[111,112,101,114,97,110,100]⟩,.string ⟨#[98,114,97,110,99,104]⟩,.string ⟨#[102,97,117,108,116]⟩,.string ⟨#[105,110,116,101,114,114,117,112,116]⟩]) 1)
 some (.slice (some ⟨st.next,0,none⟩) 5 5,st1)
noncomputable abbrev zpH:zab:=lS Tryz.prog Lk0 Tryz.f26 zav
theorem zpI:Lk0.func 26=some (26,Tryz.f26):=by kernel_rfl
theorem zpJ [Sym] (st:SS) {r:Value×SS} (h:zsS cc zpH st=some r):cc 26 [] st=some r:=
 zaf (li:=zav) zah zal zpI rfl (fun _=>rfl) (.trans (by kernel_rfl) h)
def zkc:LoopI:=⟨[(1,.any),(4,.any),(58,.any),(59,.int .i64),(60,.int .i64)],[(.exit 4,[(4,.any)]),(.ret,[(2,.any),(3,.int .i64)])]⟩
def zkT:LoopI:=⟨[(1,.any),(4,.any),(7,.any),(20,.any),(21,.int .i64),(22,.int .i64),(31,.any),(32,.int .i64),(33,.int .i64)],[(.exit 2,[(1,.any),(4,.any),(7,.any),(20,.any),(21,.int .i64),(22,.int .i64)]),(.ret,[(2,.any),(3,.int .i64)])]⟩
def zkU:LoopI:=⟨[(1,.any),(4,.any),(20,.any),(21,.int .i64),(22,.int .i64)],[(.exit 0,[(1,.any),(4,.any)]),(.ret,[(2,.any),(3,.int .i64)])]⟩
def zl7 (n:Nat):Option LoopI:=cond (Nat.beq n 5) (some zkU) (cond (Nat.beq n 9) (some zkT) (cond (Nat.beq n 17) (some zkc) (none)))
noncomputable def zhC (cf:zak) (lf:zab) (r':Value) (st:SS):Option (Value×SS):=
 let a:SS:=st.new (.cells (r':Value).cells.toList 0)
 (a.ldN st.next 0 2).bind fun b=>
 (cf 23 [b] a).bind fun c=>
 ((some c.1).bind asB).bind fun d=>
 cond (!d) (
 some (.tuple #[.pointer none,.int .i64 4],c.2)) (
 let e:SS:=c.2.new (.cells [.slice none 0 0,.int .i64 0,.int .i64 0,.int .i64 0,.int .i64 0,.int .i64 0,.int .i64 0,.slice none 0 0] 0)
 (e.ld st.next 0).bind fun f=>
 ((lenV f).bind (asI .i64)).bind fun g=>
 (lf 5 [ptr st.next 0,ptr c.2.next 0,f,.int .i64 g,.int .i64 0] e).bind fun h=>
 cond (Nat.beq h.1 0) (
 (h.2.1[0]?).bind fun i=>
 (h.2.1[1]?).bind fun j=>
 (cf 26 [] h.2.2).bind fun k=>
 ((lenV k.1).bind (asI .i64)).bind fun l=>
 (lf 17 [i,j,k.1,.int .i64 l,.int .i64 0] k.2).bind fun m=>
 cond (Nat.beq m.1 0) (
 (m.2.1[0]?).bind fun n=>
 (cf 13 [n,.int .i64 0] m.2.2).bind fun o=>
 some (.tuple #[n,.int .i64 0],o.2)) (
 (m.2.1[0]?).bind fun p=>
 ((m.2.1[1]?).bind (asI .i64)).bind fun q=>
 some (.tuple #[p,.int .i64 q],m.2.2))) (
 (h.2.1[0]?).bind fun r=>
 ((h.2.1[1]?).bind (asI .i64)).bind fun s=>
 some (.tuple #[r,.int .i64 s],h.2.2)))
noncomputable abbrev zaO:zab:=lS Tryz.prog Lk0 Tryz.f10 zl7
theorem zrp:Lk0.func 10=some (10,Tryz.f10):=by kernel_rfl
theorem zgl [Sym] (r':Value) (st:SS) {r:Value×SS} (h:zhC cc zaO r' st=some r):cc 10 [r'] st=some r:=
 zaf (li:=zl7) zah zal zrp rfl (fun _=>rfl) (.trans (by kernel_rfl) h)
noncomputable def zgm (cf:zak) (lf:zab) (r':Value) (s':Value) (t20':Value) (t21':Int) (t22':Int) (st:SS):Option (Nat×List Value×SS):=
 cond (decide (t22'<t21')) (
 (zau t20' t22' 1).bind fun a=>
 ((st.ld a.1 a.2).bind (asI .u64)).bind fun b=>
 (cf 24 [.int .u64 b] st).bind fun c=>
 let d:SS:=c.2.new (.cells [.int .i64 0,.int .i64 0,.int .i64 0,.int .i64 0,.int .i64 0,.int .i64 0,.int .i64 0,.int .i64 0,.int .i64 0,.int .i64 0,.int .i64 0,.int .i64 0] 0)
 (d.stV c.2.next 0 12 c.1).bind fun e=>
 (e.ldN c.2.next 0 12).bind fun f=>
 (cf 25 [f,.int .i64 t22'] e).bind fun g=>
 ((lenV g.1).bind (asI .i64)).bind fun h=>
 (lf 9 [r',s',ptr c.2.next 0,t20',.int .i64 t21',.int .i64 t22',g.1,.int .i64 h,.int .i64 0] g.2).bind fun i=>
 cond (Nat.beq i.1 0) (
 (i.2.1[0]?).bind fun j=>
 (i.2.1[1]?).bind fun k=>
 (i.2.1[2]?).bind fun l=>
 (i.2.1[3]?).bind fun m=>
 ((i.2.1[4]?).bind (asI .i64)).bind fun n=>
 ((i.2.1[5]?).bind (asI .i64)).bind fun o=>
 (zaj k).bind fun p=>
 (addr? p).bind fun q=>
 (i.2.2.ld q.1 q.2).bind fun r=>
 (addr? l).bind fun s=>
 (i.2.2.ldN s.1 s.2 12).bind fun t=>
 (zaW t 12).bind fun u=>
 let v:SS:=i.2.2.new (.cells (u++([])) 12)
 (v.app 12 96 r (.slice (some ⟨i.2.2.next,0,none⟩) 1 1)).bind fun w=>
 (zaj k).bind fun x=>
 (addr? x).bind fun y=>
 (w.2.stV y.1 y.2 1 w.1).bind fun z=>
 let A:Int:=IntKind.wrap .i64 (o+1)
 lf 5 [j,k,m,.int .i64 n,.int .i64 A] z) (
 (i.2.1[0]?).bind fun B=>
 ((i.2.1[1]?).bind (asI .i64)).bind fun C=>
 some (1,[B,.int .i64 C],i.2.2))) (
 some (0,[r',s'],st))
theorem zf6 [Sym] (r':Value) (s':Value) (t20':Value) (t21':Int) (t22':Int) (st:SS) {r:Nat×List Value×SS} (h:zgm cc zaO r' s' t20' t21' t22' st=some r):zaO 5 [r',s',t20',.int .i64 t21',.int .i64 t22'] st=some r:=
 zay zah zal (key:=5) (I:=zkU) rfl (by kernel_rfl) (by kernel_rfl) rfl rfl (.trans (by kernel_rfl) h)
noncomputable def zgn (cf:zak) (lf:zab) (r':Value) (s':Value) (w':Value) (t20':Value) (t21':Int) (t22':Int) (t31':Value) (t32':Int) (t33':Int) (st:SS):Option (Nat×List Value×SS):=
 cond (decide (t33'<t32')) (
 (zau t31' t33' 2).bind fun a=>
 (st.ldN a.1 a.2 2).bind fun b=>
 let c:SS:=st.new (.cells [.int .i64 0,.int .i64 0] 0)
 (c.stV st.next 0 2 b).bind fun d=>
 (zaR (ptr st.next 0) 2 0 1).bind fun e=>
 ((d.ld e.1 e.2).bind (asI .i64)).bind fun f=>
 (zaR (ptr st.next 0) 2 1 1).bind fun g=>
 ((d.ld g.1 g.2).bind (asI .i64)).bind fun h=>
 let i:Int:=IntKind.wrap .i64 (f+h)
 (addr? r').bind fun j=>
 (d.ld j.1 j.2).bind fun k=>
 ((lenV k).bind (asI .i64)).bind fun l=>
 cond (decide (l<i)) (
 some (1,[.pointer none,.int .i64 4],d)) (
 let m:Int:=IntKind.wrap .i64 (t33'+1)
 lf 9 [r',s',w',t20',.int .i64 t21',.int .i64 t22',t31',.int .i64 t32',.int .i64 m] d)) (
 some (0,[r',s',w',t20',.int .i64 t21',.int .i64 t22'],st))
theorem zf7 [Sym] (r':Value) (s':Value) (w':Value) (t20':Value) (t21':Int) (t22':Int) (t31':Value) (t32':Int) (t33':Int) (st:SS) {r:Nat×List Value×SS} (h:zgn cc zaO r' s' w' t20' t21' t22' t31' t32' t33' st=some r):zaO 9 [r',s',w',t20',.int .i64 t21',.int .i64 t22',t31',.int .i64 t32',.int .i64 t33'] st=some r:=
 zay zah zal (key:=9) (I:=zkT) rfl (by kernel_rfl) (by kernel_rfl) rfl rfl (.trans (by kernel_rfl) h)
noncomputable def zfC (cf:zak) (lf:zab) (r':Value) (s':Value) (t58':Value) (t59':Int) (t60':Int) (st:SS):Option (Nat×List Value×SS):=
 cond (decide (t60'<t59')) (
 (zau t58' t60' 1).bind fun a=>
 ((st.ld a.1 a.2).bind asS).bind fun b=>
 (addr? r').bind fun c=>
 (st.ldN c.1 c.2 2).bind fun d=>
 (cf 27 [d,.string b] st).bind fun e=>
 ((zan e.1 0).bind (asI .i64)).bind fun f=>
 ((zan e.1 1).bind asB).bind fun g=>
 cond (!g) (
 some (1,[.pointer none,.int .i64 4],e.2)) (
 (zaj s').bind fun h=>
 (addr? h).bind fun i=>
 (zaR (ptr i.1 (i.2+1)) 5 t60' 1).bind fun j=>
 (e.2.st j.1 j.2 [.int .i64 f]).bind fun k=>
 let l:Int:=IntKind.wrap .i64 (t60'+1)
 lf 17 [r',s',t58',.int .i64 t59',.int .i64 l] k)) (
 some (0,[s'],st))
theorem zfD [Sym] (r':Value) (s':Value) (t58':Value) (t59':Int) (t60':Int) (st:SS) {r:Nat×List Value×SS} (h:zfC cc zaO r' s' t58' t59' t60' st=some r):zaO 17 [r',s',t58',.int .i64 t59',.int .i64 t60'] st=some r:=
 zay zah zal (key:=17) (I:=zkc) rfl (by kernel_rfl) (by kernel_rfl) rfl rfl (.trans (by kernel_rfl) h)
noncomputable def zi3 (cf:zak) (lf:zab) (s':Value) (st:SS):Option (Value×SS):=
 (zaj s').bind fun a=>
 (addr? a).bind fun b=>
 ((st.ro st.next).ld b.1 (b.2+7)).bind fun c=>
 ((lenV c).bind (asI .i64)).bind fun d=>
 some (.int .i64 d,st.adv (st.ro st.next).next)
noncomputable abbrev zlE:zab:=lS Tryz.prog Lk0 Tryz.f11 zav
theorem zlF:Lk0.func 11=some (11,Tryz.f11):=by kernel_rfl
theorem zlG [Sym] (s':Value) (st:SS) {r:Value×SS} (h:zi3 cc zlE s' st=some r):cc 11 [s'] st=some r:=
 zaf (li:=zav) zah zal zlF rfl (fun _=>rfl) (.trans (by kernel_rfl) h)
noncomputable def zl8 (cf:zak) (lf:zab) (s':Value) (st:SS):Option (Value×SS):=
 (zaj s').bind fun a=>
 (addr? a).bind fun b=>
 (((st.ro st.next).ld b.1 (b.2+6)).bind (asI .i64)).bind fun c=>
 some (.int .i64 c,st.adv (st.ro st.next).next)
noncomputable abbrev zoy:zab:=lS Tryz.prog Lk0 Tryz.f14 zav
theorem zoz:Lk0.func 14=some (14,Tryz.f14):=by kernel_rfl
theorem zoA [Sym] (s':Value) (st:SS) {r:Value×SS} (h:zl8 cc zoy s' st=some r):cc 14 [s'] st=some r:=
 zaf (li:=zav) zah zal zoz rfl (fun _=>rfl) (.trans (by kernel_rfl) h)
noncomputable def zkd (cf:zak) (lf:zab) (s':Value) (st:SS):Option (Value×SS):=
 let a:SS:=(st.ro st.next).new (.cells [.int .i64 0,.int .i64 0,.int .i64 0,.int .i64 0,.int .i64 0,.int .i64 0,.int .i64 0,.int .i64 0,.int .i64 0,.int .i64 0,.int .i64 0,.int .i64 0] 0)
 (zaj s').bind fun b=>
 (addr? b).bind fun c=>
 (a.ld c.1 c.2).bind fun d=>
 (zaj s').bind fun e=>
 (addr? e).bind fun f=>
 ((a.ld f.1 (f.2+6)).bind (asI .i64)).bind fun g=>
 (zau d g 12).bind fun h=>
 (a.ldN h.1 h.2 12).bind fun i=>
 (a.stV ((st.ro st.next).next) 0 12 i).bind fun j=>
 (j.rdN ((st.ro st.next).next) 0 12).bind fun k=>
 cond (flat3 k) (some (k,st.adv j.next)) none
noncomputable abbrev zmI:zab:=lS Tryz.prog Lk0 Tryz.f21 zav
theorem zmJ:Lk0.func 21=some (21,Tryz.f21):=by kernel_rfl
theorem zmK [Sym] (s':Value) (st:SS) {r:Value×SS} (h:zkd cc zmI s' st=some r):cc 21 [s'] st=some r:=
 zaf (li:=zav) zah zal zmJ rfl (fun _=>rfl) (.trans (by kernel_rfl) h)
noncomputable def zbh (cf:zak) (lf:zab) (s':Value) (c':Value) (st:SS):Option (Value×SS):=
 let a:SS:=st.new (.cells (c':Value).cells.toList 0)
 (cf 21 [s'] a).bind fun b=>
 let c:SS:=b.2.new (.cells [.int .i64 0,.int .i64 0,.int .i64 0,.int .i64 0,.int .i64 0,.int .i64 0,.int .i64 0,.int .i64 0,.int .i64 0,.int .i64 0,.int .i64 0,.int .i64 0] 0)
 (c.stV b.2.next 0 12 b.1).bind fun d=>
 ((d.ld b.2.next 8).bind (asI .i64)).bind fun e=>
 cond (decide (e=0)) (
 (zaj s').bind fun f=>
 (addr? f).bind fun g=>
 ((d.ld g.1 (g.2+6)).bind (asI .i64)).bind fun h=>
 let i:Int:=IntKind.wrap .i64 (h+1)
 (zaj s').bind fun j=>
 (addr? j).bind fun k=>
 (d.st k.1 (k.2+6) [.int .i64 i]).bind fun l=>
 some (.bool false,l)) (
 cond (decide (e=1)) (
 ((d.ld b.2.next 10).bind (asI .i64)).bind fun m=>
 (zaj s').bind fun n=>
 (addr? n).bind fun o=>
 (d.st o.1 (o.2+6) [.int .i64 m]).bind fun p=>
 some (.bool false,p)) (
 cond (decide (e=2)) (
 (zaj s').bind fun q=>
 (addr? q).bind fun r=>
 ((d.ld r.1 (r.2+6)).bind (asI .i64)).bind fun s=>
 let t:Int:=IntKind.wrap .i64 (s+1)
 (zaj s').bind fun u=>
 (addr? u).bind fun v=>
 (d.st v.1 (v.2+6) [.int .i64 t]).bind fun w=>
 ((w.ld st.next 0).bind asB).bind fun x=>
 cond x (
 ((w.ld b.2.next 10).bind (asI .i64)).bind fun y=>
 (zaj s').bind fun z=>
 (addr? z).bind fun A=>
 (w.st A.1 (A.2+6) [.int .i64 y]).bind fun B=>
 some (.bool false,B)) (
 some (.bool false,w))) (
 cond (decide (e=3)) (
 (cf 28 [s'] d).bind fun C=>
 ((C.2.ld b.2.next 10).bind (asI .i64)).bind fun D=>
 (zaj s').bind fun E=>
 (addr? E).bind fun F=>
 (C.2.st F.1 (F.2+6) [.int .i64 D]).bind fun G=>
 some (.bool false,G)) (
 cond (decide (e=4)) (
 (cf 29 [s'] d).bind fun H=>
 ((some H.1).bind (asI .i64)).bind fun I=>
 (zaj s').bind fun J=>
 (addr? J).bind fun K=>
 (H.2.st K.1 (K.2+6) [.int .i64 I]).bind fun L=>
 some (.bool false,L)) (
 cond (decide (e=5)) (
 ((d.ld b.2.next 10).bind (asI .i64)).bind fun M=>
 ((d.ld st.next 1).bind (asI .i64)).bind fun N=>
 let O:Int:=zf0 .i64 N 63
 let P:Int:=IntKind.wrap .i64 (M+O)
 (zaj s').bind fun Q=>
 (addr? Q).bind fun R=>
 (d.st R.1 (R.2+6) [.int .i64 P]).bind fun S=>
 ((S.ld st.next 2).bind (asI .i64)).bind fun T=>
 cond (decide (T=1)) (
 ((S.ld st.next 2).bind (asI .i64)).bind fun U=>
 (zaj s').bind fun V=>
 (addr? V).bind fun W=>
 (zaR (ptr W.1 (W.2+1)) 5 U 1).bind fun X=>
 ((S.ld X.1 X.2).bind (asI .i64)).bind fun Y=>
 (zaj s').bind fun Z=>
 (addr? Z).bind fun aA=>
 (S.st aA.1 (aA.2+6) [.int .i64 Y]).bind fun aB=>
 some (.bool false,aB)) (
 ((S.ld st.next 2).bind (asI .i64)).bind fun aC=>
 cond (decide (aC=2)) (
 ((S.ld st.next 2).bind (asI .i64)).bind fun aD=>
 (zaj s').bind fun aE=>
 (addr? aE).bind fun aF=>
 (zaR (ptr aF.1 (aF.2+1)) 5 aD 1).bind fun aG=>
 ((S.ld aG.1 aG.2).bind (asI .i64)).bind fun aH=>
 (zaj s').bind fun aI=>
 (addr? aI).bind fun aJ=>
 (S.st aJ.1 (aJ.2+6) [.int .i64 aH]).bind fun aK=>
 some (.bool false,aK)) (
 some (.bool false,S)))) (
 cond (decide (e=6)) (
 ((d.ld b.2.next 10).bind (asI .i64)).bind fun aL=>
 ((d.ld st.next 1).bind (asI .i64)).bind fun aM=>
 let aN:Int:=zf0 .i64 aM 15
 let aO:Int:=IntKind.wrap .i64 (aL+aN)
 (zaj s').bind fun aP=>
 (addr? aP).bind fun aQ=>
 (d.st aQ.1 (aQ.2+6) [.int .i64 aO]).bind fun aR=>
 some (.bool false,aR)) (
 (cf 13 [s',.int .i64 0] d).bind fun aS=>
 some (.bool true,aS.2))))))))
noncomputable abbrev zmL:zab:=lS Tryz.prog Lk0 Tryz.f12 zav
theorem zmM:Lk0.func 12=some (12,Tryz.f12):=by kernel_rfl
theorem za5 [Sym] (s':Value) (c':Value) (st:SS) {r:Value×SS} (h:zbh cc zmL s' c' st=some r):cc 12 [s',c'] st=some r:=
 zaf (li:=zav) zah zal zmM rfl (fun _=>rfl) (.trans (by kernel_rfl) h)
noncomputable def zl9 (cf:zak) (lf:zab) (s':Value) (entry':Int) (st:SS):Option (Value×SS):=
 cond (decide (0≤entry')) (
 cond (decide (entry'<5)) (
 (zaj s').bind fun a=>
 (addr? a).bind fun b=>
 (zaR (ptr b.1 (b.2+1)) 5 entry' 1).bind fun c=>
 ((st.ld c.1 c.2).bind (asI .i64)).bind fun d=>
 (zaj s').bind fun e=>
 (addr? e).bind fun f=>
 (st.st f.1 (f.2+6) [.int .i64 d]).bind fun g=>
 (zaj s').bind fun h=>
 (addr? h).bind fun i=>
 (g.st i.1 (i.2+7) [.slice none 0 0]).bind fun j=>
 some (.tuple #[],j)) (
 some (.tuple #[],st))) (
 some (.tuple #[],st))
noncomputable abbrev zoB:zab:=lS Tryz.prog Lk0 Tryz.f13 zav
theorem zoC:Lk0.func 13=some (13,Tryz.f13):=by kernel_rfl
theorem zoD [Sym] (s':Value) (entry':Int) (st:SS) {r:Value×SS} (h:zl9 cc zoB s' entry' st=some r):cc 13 [s',.int .i64 entry'] st=some r:=
 zaf (li:=zav) zah zal zoC rfl (fun _=>rfl) (.trans (by kernel_rfl) h)
noncomputable def zgD (cf:zak) (lf:zab) (s':Value) (st:SS):Option (Value×SS):=
 (zaj s').bind fun a=>
 (addr? a).bind fun b=>
 (st.ld b.1 (b.2+7)).bind fun c=>
 (zaj s').bind fun d=>
 (addr? d).bind fun e=>
 ((st.ld e.1 (e.2+6)).bind (asI .i64)).bind fun f=>
 let g:Int:=IntKind.wrap .i64 (f+1)
 let h:SS:=st.new (.cells ([.int .i64 g]) 1)
 (h.app 1 8 c (.slice (some ⟨st.next,0,none⟩) 1 1)).bind fun i=>
 (zaj s').bind fun j=>
 (addr? j).bind fun k=>
 (i.2.stV k.1 (k.2+7) 1 i.1).bind fun l=>
 (zaj s').bind fun m=>
 (addr? m).bind fun n=>
 (l.ld n.1 (n.2+7)).bind fun o=>
 ((lenV o).bind (asI .i64)).bind fun p=>
 cond (decide (8<p)) (
 (zaj s').bind fun q=>
 (addr? q).bind fun r=>
 (l.ld r.1 (r.2+7)).bind fun s=>
 (sliceLen s).bind fun t=>
 (l.resl s 1 1 t).bind fun u=>
 (zaj s').bind fun v=>
 (addr? v).bind fun w=>
 (l.stV w.1 (w.2+7) 1 u).bind fun x=>
 some (.tuple #[],x)) (
 some (.tuple #[],l))
noncomputable abbrev zmN:zab:=lS Tryz.prog Lk0 Tryz.f28 zav
theorem zmO:Lk0.func 28=some (28,Tryz.f28):=by kernel_rfl
theorem zhD [Sym] (s':Value) (st:SS) {r:Value×SS} (h:zgD cc zmN s' st=some r):cc 28 [s'] st=some r:=
 zaf (li:=zav) zah zal zmO rfl (fun _=>rfl) (.trans (by kernel_rfl) h)
noncomputable def zgE (cf:zak) (lf:zab) (s':Value) (st:SS):Option (Value×SS):=
 (zaj s').bind fun a=>
 (addr? a).bind fun b=>
 (st.ld b.1 (b.2+7)).bind fun c=>
 ((lenV c).bind (asI .i64)).bind fun d=>
 cond (decide (d=0)) (
 (zaj s').bind fun e=>
 (addr? e).bind fun f=>
 (zaR (ptr f.1 (f.2+1)) 5 0 1).bind fun g=>
 ((st.ld g.1 g.2).bind (asI .i64)).bind fun h=>
 some (.int .i64 h,st)) (
 (zaj s').bind fun i=>
 (addr? i).bind fun j=>
 (st.ld j.1 (j.2+7)).bind fun k=>
 let l:Int:=IntKind.wrap .i64 (d-1)
 (zau k l 1).bind fun m=>
 ((st.ld m.1 m.2).bind (asI .i64)).bind fun n=>
 (zaj s').bind fun o=>
 (addr? o).bind fun p=>
 (st.ld p.1 (p.2+7)).bind fun q=>
 let r:Int:=IntKind.wrap .i64 (d-1)
 (st.resl q 1 0 r).bind fun s=>
 (zaj s').bind fun t=>
 (addr? t).bind fun u=>
 (st.stV u.1 (u.2+7) 1 s).bind fun v=>
 some (.int .i64 n,v))
noncomputable abbrev zmP:zab:=lS Tryz.prog Lk0 Tryz.f29 zav
theorem zmQ:Lk0.func 29=some (29,Tryz.f29):=by kernel_rfl
theorem zhE [Sym] (s':Value) (st:SS) {r:Value×SS} (h:zgE cc zmP s' st=some r):cc 29 [s'] st=some r:=
 zaf (li:=zav) zah zal zmQ rfl (fun _=>rfl) (.trans (by kernel_rfl) h)
noncomputable def zfE (cf:zak) (lf:zab) (s':Value) (n':Int) (st:SS):Option (Value×SS):=
 cond (decide (0≤n')) (
 cond (decide (n'≤4)) (
 (zaj s').bind fun a=>
 (addr? a).bind fun b=>
 (st.ld b.1 (b.2+1)).bind fun c=>
 (zau c n' 1).bind fun d=>
 ((st.ld d.1 d.2).bind (asI .i64)).bind fun e=>
 (zaj s').bind fun f=>
 (addr? f).bind fun g=>
 (st.st g.1 (g.2+2) [.int .i64 e]).bind fun h=>
 (zaj s').bind fun i=>
 (addr? i).bind fun j=>
 (h.st j.1 (j.2+3) [.slice none 0 0]).bind fun k=>
 some (.tuple #[],k)) (
 some (.tuple #[],st))) (
 some (.tuple #[],st))
noncomputable abbrev zhU:zab:=lS Tryz.prog Lk0 Tryz.f19 zav
theorem zhV:Lk0.func 19=some (19,Tryz.f19):=by kernel_rfl
theorem zhW [Sym] (s':Value) (n':Int) (st:SS) {r:Value×SS} (h:zfE cc zhU s' n' st=some r):cc 19 [s',.int .i64 n'] st=some r:=
 zaf (li:=zav) zah zal zhV rfl (fun _=>rfl) (.trans (by kernel_rfl) h)
noncomputable def zaC (cf:zak) (lf:zab) (s':Value) (is':Bool) (table':Int) (operand':Int) (st:SS):Option (Value×SS):=
 (zaj s').bind fun a=>
 (addr? a).bind fun b=>
 (st.ld b.1 b.2).bind fun c=>
 (zaj s').bind fun d=>
 (addr? d).bind fun e=>
 ((st.ld e.1 (e.2+2)).bind (asI .i64)).bind fun f=>
 (zau c f 12).bind fun g=>
 (st.ldN g.1 g.2 12).bind fun h=>
 let i:SS:=st.new (.cells [.int .i64 0,.int .i64 0,.int .i64 0,.int .i64 0,.int .i64 0,.int .i64 0,.int .i64 0,.int .i64 0,.int .i64 0,.int .i64 0,.int .i64 0,.int .i64 0] 0)
 (i.stV st.next 0 12 h).bind fun j=>
 (zaj s').bind fun k=>
 (addr? k).bind fun l=>
 ((j.ld l.1 (l.2+2)).bind (asI .i64)).bind fun m=>
 let n:Int:=IntKind.wrap .i64 (m+1)
 ((j.ld st.next 8).bind (asI .i64)).bind fun o=>
 cond (decide (o=1)) (
 ((j.ld st.next 10).bind (asI .i64)).bind fun p=>
 (zaj s').bind fun q=>
 (addr? q).bind fun r=>
 (j.st r.1 (r.2+2) [.int .i64 p]).bind fun s=>
 some (.bool false,s)) (
 cond (decide (o=2)) (
 cond is' (
 ((j.ld st.next 10).bind (asI .i64)).bind fun t=>
 (zaj s').bind fun u=>
 (addr? u).bind fun v=>
 (j.st v.1 (v.2+2) [.int .i64 t]).bind fun w=>
 some (.bool false,w)) (
 (zaj s').bind fun x=>
 (addr? x).bind fun y=>
 (j.st y.1 (y.2+2) [.int .i64 n]).bind fun z=>
 some (.bool false,z))) (
 cond (decide (o=3)) (
 let A:SS:=j.new (.cells ([]) 1)
 (zaj s').bind fun B=>
 (addr? B).bind fun C=>
 (A.ld C.1 (C.2+3)).bind fun D=>
 (A.app 1 8 (.slice (some ⟨j.next,0,none⟩) 0 0) D).bind fun E=>
 let F:SS:=E.2.new (.cells ([.int .i64 n]) 1)
 (F.app 1 8 E.1 (.slice (some ⟨E.2.next,0,none⟩) 1 1)).bind fun G=>
 (zaj s').bind fun H=>
 (addr? H).bind fun I=>
 (G.2.stV I.1 (I.2+3) 1 G.1).bind fun J=>
 (zaj s').bind fun K=>
 (addr? K).bind fun L=>
 (J.ld L.1 (L.2+3)).bind fun M=>
 ((lenV M).bind (asI .i64)).bind fun N=>
 cond (decide (N=9)) (
 (zaj s').bind fun O=>
 (addr? O).bind fun P=>
 (J.ld P.1 (P.2+3)).bind fun Q=>
 (sliceLen Q).bind fun R=>
 (J.resl Q 1 1 R).bind fun S=>
 (zaj s').bind fun T=>
 (addr? T).bind fun U=>
 (J.stV U.1 (U.2+3) 1 S).bind fun V=>
 ((V.ld st.next 10).bind (asI .i64)).bind fun W=>
 (zaj s').bind fun X=>
 (addr? X).bind fun Y=>
 (V.st Y.1 (Y.2+2) [.int .i64 W]).bind fun Z=>
 some (.bool false,Z)) (
 ((J.ld st.next 10).bind (asI .i64)).bind fun aA=>
 (zaj s').bind fun aB=>
 (addr? aB).bind fun aC=>
 (J.st aC.1 (aC.2+2) [.int .i64 aA]).bind fun aD=>
 some (.bool false,aD))) (
 cond (decide (o=4)) (
 (zaj s').bind fun aE=>
 (addr? aE).bind fun aF=>
 (j.ld aF.1 (aF.2+1)).bind fun aG=>
 (zau aG 0 1).bind fun aH=>
 ((j.ld aH.1 aH.2).bind (asI .i64)).bind fun aI=>
 (zaj s').bind fun aJ=>
 (addr? aJ).bind fun aK=>
 (j.ld aK.1 (aK.2+3)).bind fun aL=>
 ((lenV aL).bind (asI .i64)).bind fun aM=>
 cond (decide (0<aM)) (
 (zaj s').bind fun aN=>
 (addr? aN).bind fun aO=>
 (j.ld aO.1 (aO.2+3)).bind fun aP=>
 let aQ:Int:=IntKind.wrap .i64 (aM-1)
 (zau aP aQ 1).bind fun aR=>
 ((j.ld aR.1 aR.2).bind (asI .i64)).bind fun aS=>
 let aT:SS:=j.new (.cells ([]) 1)
 (zaj s').bind fun aU=>
 (addr? aU).bind fun aV=>
 (aT.ld aV.1 (aV.2+3)).bind fun aW=>
 let aX:Int:=IntKind.wrap .i64 (aM-1)
 (aT.resl aW 1 0 aX).bind fun aY=>
 (aT.app 1 8 (.slice (some ⟨j.next,0,none⟩) 0 0) aY).bind fun aZ=>
 (zaj s').bind fun bA=>
 (addr? bA).bind fun bB=>
 (aZ.2.stV bB.1 (bB.2+3) 1 aZ.1).bind fun bC=>
 (zaj s').bind fun bD=>
 (addr? bD).bind fun bE=>
 (bC.st bE.1 (bE.2+2) [.int .i64 aS]).bind fun bF=>
 some (.bool false,bF)) (
 (zaj s').bind fun bG=>
 (addr? bG).bind fun bH=>
 (j.st bH.1 (bH.2+2) [.int .i64 aI]).bind fun bI=>
 some (.bool false,bI))) (
 cond (decide (o=5)) (
 ((j.ld st.next 10).bind (asI .i64)).bind fun bJ=>
 let bK:Int:=IntKind.wrap .u64 table'
 let bL:Int:=Int.tmod bK 64
 let bM:Int:=IntKind.wrap .i64 bL
 let bN:Int:=IntKind.wrap .i64 (bJ+bM)
 cond (decide (operand'=1)) (
 (zaj s').bind fun bO=>
 (addr? bO).bind fun bP=>
 (j.ld bP.1 (bP.2+1)).bind fun bQ=>
 (zau bQ operand' 1).bind fun bR=>
 ((j.ld bR.1 bR.2).bind (asI .i64)).bind fun bS=>
 (zaj s').bind fun bT=>
 (addr? bT).bind fun bU=>
 (j.st bU.1 (bU.2+2) [.int .i64 bS]).bind fun bV=>
 some (.bool false,bV)) (
 cond (decide (operand'=2)) (
 (zaj s').bind fun bW=>
 (addr? bW).bind fun bX=>
 (j.ld bX.1 (bX.2+1)).bind fun bY=>
 (zau bY operand' 1).bind fun bZ=>
 ((j.ld bZ.1 bZ.2).bind (asI .i64)).bind fun cA=>
 (zaj s').bind fun cB=>
 (addr? cB).bind fun cC=>
 (j.st cC.1 (cC.2+2) [.int .i64 cA]).bind fun cD=>
 some (.bool false,cD)) (
 (zaj s').bind fun cE=>
 (addr? cE).bind fun cF=>
 (j.st cF.1 (cF.2+2) [.int .i64 bN]).bind fun cG=>
 some (.bool false,cG)))) (
 cond (decide (o=6)) (
 ((j.ld st.next 10).bind (asI .i64)).bind fun cH=>
 let cI:Int:=IntKind.wrap .u64 table'
 let cJ:Int:=Int.tmod cI 16
 let cK:Int:=IntKind.wrap .i64 cJ
 let cL:Int:=IntKind.wrap .i64 (cH+cK)
 (zaj s').bind fun cM=>
 (addr? cM).bind fun cN=>
 (j.st cN.1 (cN.2+2) [.int .i64 cL]).bind fun cO=>
 some (.bool false,cO)) (
 cond (decide (o=7)) (
 (cf 19 [s',.int .i64 0] j).bind fun cP=>
 some (.bool true,cP.2)) (
 (zaj s').bind fun cQ=>
 (addr? cQ).bind fun cR=>
 (j.st cR.1 (cR.2+2) [.int .i64 n]).bind fun cS=>
 some (.bool false,cS))))))))
noncomputable abbrev zea:zab:=lS Tryz.prog Lk0 Tryz.f20 zav
theorem zg1:Lk0.func 20=some (20,Tryz.f20):=by kernel_rfl
theorem zg2 [Sym] (s':Value) (is':Bool) (table':Int) (operand':Int) (st:SS) {r:Value×SS} (h:zaC cc zea s' is' table' operand' st=some r):cc 20 [s',.bool is',.int .i64 table',.int .i64 operand'] st=some r:=
 zaf (li:=zav) zah zal zg1 rfl (fun _=>rfl) (.trans (by kernel_rfl) h)
def zds:LoopI:=⟨[(7,.any),(9,.any),(75,.any),(76,.int .i64),(77,.int .i64)],[(.exit 2,[]),(.ret,[(4,.bool)])]⟩
def zdu:LoopI:=⟨[(0,.any),(1,.int .i64),(7,.any),(9,.any),(53,.any),(54,.int .i64),(55,.int .i64)],[(.exit 0,[(0,.any),(1,.int .i64),(7,.any),(9,.any)])]⟩
def zdO (n:Nat):Option LoopI:=cond (Nat.beq n 11) (some zdu) (cond (Nat.beq n 18) (some zds) (none))
noncomputable def zbk (cf:zak) (lf:zab) (steps':Value) (entry':Int) (st:SS):Option (Value×SS):=
 (cf 6 [] st).bind fun a=>
 ((some a.1).bind asB).bind fun b=>
 cond (!b) (
 some (.bool false,a.2)) (
 ((lenV steps').bind (asI .i64)).bind fun c=>
 cond (decide (60<c)) (
 some (.bool true,a.2)) (
 cond (decide (entry'<0)) (
 some (.bool true,a.2)) (
 cond (decide (4<entry')) (
 some (.bool true,a.2)) (
 (cf 9 [] a.2).bind fun d=>
 (zan d.1 0).bind fun e=>
 ((zan d.1 1).bind (asI .i64)).bind fun f=>
 let g:SS:=d.2.new (.cells [.slice none 0 0,.slice none 0 0] 0)
 (g.stV d.2.next 0 2 e).bind fun h=>
 (h.ldN d.2.next 0 2).bind fun i=>
 (cf 10 [i] h).bind fun j=>
 (zan j.1 0).bind fun k=>
 ((zan j.1 1).bind (asI .i64)).bind fun l=>
 (j.2.ldN d.2.next 0 2).bind fun m=>
 (cf 10 [m] j.2).bind fun n=>
 (zan n.1 0).bind fun o=>
 ((zan n.1 1).bind (asI .i64)).bind fun p=>
 cond (!(decide (f=0))) (
 some (.bool false,n.2)) (
 cond (!(decide (l=0))) (
 some (.bool false,n.2)) (
 cond (!(decide (p=0))) (
 some (.bool false,n.2)) (
 ((lenV steps').bind (asI .i64)).bind fun q=>
 (lf 11 [steps',.int .i64 entry',k,o,steps',.int .i64 q,.int .i64 0] n.2).bind fun r=>
 (r.2.1[0]?).bind fun s=>
 ((r.2.1[1]?).bind (asI .i64)).bind fun t=>
 (r.2.1[2]?).bind fun u=>
 (r.2.1[3]?).bind fun v=>
 (cf 13 [u,.int .i64 t] r.2.2).bind fun w=>
 (cf 13 [v,.int .i64 t] w.2).bind fun x=>
 ((lenV s).bind (asI .i64)).bind fun y=>
 (lf 18 [u,v,s,.int .i64 y,.int .i64 0] x.2).bind fun z=>
 cond (Nat.beq z.1 0) (
 some (.bool true,z.2.2)) (
 ((z.2.1[0]?).bind asB).bind fun A=>
 some (.bool A,z.2.2)))))))))
noncomputable abbrev zaJ:zab:=lS Tryz.prog Lk0 Tryz.f5 zdO
theorem zgF:Lk0.func 5=some (5,Tryz.f5):=by kernel_rfl
theorem zgG [Sym] (steps':Value) (entry':Int) (st:SS) {r:Value×SS} (h:zbk cc zaJ steps' entry' st=some r):cc 5 [steps',.int .i64 entry'] st=some r:=
 zaf (li:=zdO) zah zal zgF rfl (fun _=>rfl) (.trans (by kernel_rfl) h)
noncomputable def zcl (cf:zak) (lf:zab) (steps':Value) (entry':Int) (s':Value) (t':Value) (t53':Value) (t54':Int) (t55':Int) (st:SS):Option (Nat×List Value×SS):=
 cond (decide (t55'<t54')) (
 (zau t53' t55' 5).bind fun a=>
 (st.ldN a.1 a.2 5).bind fun b=>
 let c:SS:=st.new (.cells [.bool false,.int .i64 0,.bool false,.int .i64 0,.int .i64 0] 0)
 (c.stV st.next 0 5 b).bind fun d=>
 ((d.ld st.next 2).bind asB).bind fun e=>
 ((d.ld st.next 3).bind (asI .i64)).bind fun f=>
 ((d.ld st.next 4).bind (asI .i64)).bind fun g=>
 (cf 12 [s',.agg #[.bool e,.int .i64 f,.int .i64 g]] d).bind fun h=>
 ((some h.1).bind asB).bind fun i=>
 let j:Int:=IntKind.wrap .i64 (t55'+1)
 lf 11 [steps',.int .i64 entry',s',t',t53',.int .i64 t54',.int .i64 j] h.2) (
 some (0,[steps',.int .i64 entry',s',t'],st))
theorem zc3 [Sym] (steps':Value) (entry':Int) (s':Value) (t':Value) (t53':Value) (t54':Int) (t55':Int) (st:SS) {r:Nat×List Value×SS} (h:zcl cc zaJ steps' entry' s' t' t53' t54' t55' st=some r):zaJ 11 [steps',.int .i64 entry',s',t',t53',.int .i64 t54',.int .i64 t55'] st=some r:=
 zay zah zal (key:=11) (I:=zdu) rfl (by kernel_rfl) (by kernel_rfl) rfl rfl (.trans (by kernel_rfl) h)
noncomputable def zcm (cf:zak) (lf:zab) (s':Value) (t':Value) (t75':Value) (t76':Int) (t77':Int) (st:SS):Option (Nat×List Value×SS):=
 cond (decide (t77'<t76')) (
 (zau t75' t77' 5).bind fun a=>
 (st.ldN a.1 a.2 5).bind fun b=>
 let c:SS:=st.new (.cells [.bool false,.int .i64 0,.bool false,.int .i64 0,.int .i64 0] 0)
 (c.stV st.next 0 5 b).bind fun d=>
 (cf 14 [s'] d).bind fun e=>
 ((some e.1).bind (asI .i64)).bind fun f=>
 (cf 14 [t'] e.2).bind fun g=>
 ((some g.1).bind (asI .i64)).bind fun h=>
 cond (!(decide (f=h))) (
 some (1,[.bool false],g.2)) (
 (cf 11 [s'] g.2).bind fun i=>
 ((some i.1).bind (asI .i64)).bind fun j=>
 (cf 11 [t'] i.2).bind fun k=>
 ((some k.1).bind (asI .i64)).bind fun l=>
 cond (!(decide (j=l))) (
 some (1,[.bool false],k.2)) (
 ((k.2.ld st.next 2).bind asB).bind fun m=>
 ((k.2.ld st.next 3).bind (asI .i64)).bind fun n=>
 ((k.2.ld st.next 4).bind (asI .i64)).bind fun o=>
 let p:SS:=k.2.new (.cells [.bool false,.int .i64 0,.int .i64 0] 0)
 (p.st k.2.next 0 [.bool m,.int .i64 n,.int .i64 o]).bind fun q=>
 (q.ldN k.2.next 0 3).bind fun r=>
 (zmt Lk0 q (ptr k.2.next 0)).bind fun w19=>
 (cf 12 [s',r] (q.frz w19)).bind fun s=>
 ((some s.1).bind asB).bind fun t=>
 ((s.2.unfrz w19).ldN k.2.next 0 3).bind fun u=>
 (cf 12 [t',u] (s.2.unfrz w19)).bind fun v=>
 ((some v.1).bind asB).bind fun w=>
 cond (!(t==w)) (
 some (1,[.bool false],v.2)) (
 let x:Int:=IntKind.wrap .i64 (t77'+1)
 lf 18 [s',t',t75',.int .i64 t76',.int .i64 x] v.2)))) (
 some (0,[],st))
theorem zc4 [Sym] (s':Value) (t':Value) (t75':Value) (t76':Int) (t77':Int) (st:SS) {r:Nat×List Value×SS} (h:zcm cc zaJ s' t' t75' t76' t77' st=some r):zaJ 18 [s',t',t75',.int .i64 t76',.int .i64 t77'] st=some r:=
 zay zah zal (key:=18) (I:=zds) rfl (by kernel_rfl) (by kernel_rfl) rfl rfl (.trans (by kernel_rfl) h)
end Go.Proofs.YtcplfckncandkaaGreatDoorE
namespace Go.Proofs.YtcplfckncandkaaGreatDoorE
set_option maxRecDepth 20000
open Go Go.E Go.Proofs
noncomputable def zkV (cf:zak) (lf:zab) (s':ByteArray) (cutset':ByteArray) (st:SS):Option (Value×SS):=
 cond (eqT s' ⟨#[]⟩) (
 some (.string s',st.adv (st.ro st.next).next)) (
 cond (eqT cutset' ⟨#[]⟩) (
 some (.string s',st.adv (st.ro st.next).next)) (
 cond (decide ((cutset'.size:Int)=1)) (
 ((zcB cutset' 0).bind (asI .u8)).bind fun a=>
 cond (decide (a<128)) (
 ((zcB cutset' 0).bind (asI .u8)).bind fun b=>
 (cf 83 [.string s',.int .u8 b] (st.ro st.next)).bind fun c=>
 ((some c.1).bind asS).bind fun d=>
 ((zcB cutset' 0).bind (asI .u8)).bind fun e=>
 (cf 82 [.string d,.int .u8 e] c.2).bind fun f=>
 ((some f.1).bind asS).bind fun g=>
 some (.string g,st.adv f.2.next)) (
 (cf 84 [.string cutset'] (st.ro st.next)).bind fun h=>
 (zan h.1 0).bind fun i=>
 ((zan h.1 1).bind asB).bind fun j=>
 let k:SS:=h.2.new (.cells [.bool false,.bool false,.bool false,.bool false,.bool false,.bool false,.bool false,.bool false,.bool false,.bool false,.bool false,.bool false,.bool false,.bool false,.bool false,.bool false,.bool false,.bool false,.bool false,.bool false,.bool false,.bool false,.bool false,.bool false,.bool false,.bool false,.bool false,.bool false,.bool false,.bool false,.bool false,.bool false,.bool false,.bool false,.bool false,.bool false,.bool false,.bool false,.bool false,.bool false,.bool false,.bool false,.bool false,.bool false,.bool false,.bool false,.bool false,.bool false,.bool false,.bool false,.bool false,.bool false,.bool false,.bool false,.bool false,.bool false,.bool false,.bool false,.bool false,.bool false,.bool false,.bool false,.bool false,.bool false,.bool false,.bool false,.bool false,.bool false,.bool false,.bool false,.bool false,.bool false,.bool false,.bool false,.bool false,.bool false,.bool false,.bool false,.bool false,.bool false,.bool false,.bool false,.bool false,.bool false,.bool false,.bool false,.bool false,.bool false,.bool false,.bool false,.bool false,.bool false,.bool false,.bool false,.bool false,.bool false,.bool false,.bool false,.bool false,.bool false,.bool false,.bool false,.bool false,.bool false,.bool false,.bool false,.bool false,.bool false,.bool false,.bool false,.bool false,.bool false,.bool false,.bool false,.bool false,.bool false,.bool false,.bool false,.bool false,.bool false,.bool false,.bool false,.bool false,.bool false,.bool false,.bool false,.bool false,.bool false,.bool false,.bool false,.bool false,.bool false,.bool false,.bool false,.bool false,.bool false,.bool false,.bool false,.bool false,.bool false,.bool false,.bool false,.bool false,.bool false,.bool false,.bool false,.bool false,.bool false,.bool false,.bool false,.bool false,.bool false,.bool false,.bool false,.bool false,.bool false,.bool false,.bool false,.bool false,.bool false,.bool false,.bool false,.bool false,.bool false,.bool false,.bool false,.bool false,.bool false,.bool false,.bool false,.bool false,.bool false,.bool false,.bool false,.bool false,.bool false,.bool false,.bool false,.bool false,.bool false,.bool false,.bool false,.bool false,.bool false,.bool false,.bool false,.bool false,.bool false,.bool false,.bool false,.bool false,.bool false,.bool false,.bool false,.bool false,.bool false,.bool false,.bool false,.bool false,.bool false,.bool false,.bool false,.bool false,.bool false,.bool false,.bool false,.bool false,.bool false,.bool false,.bool false,.bool false,.bool false,.bool false,.bool false,.bool false,.bool false,.bool false,.bool false,.bool false,.bool false,.bool false,.bool false,.bool false,.bool false,.bool false,.bool false,.bool false,.bool false,.bool false,.bool false,.bool false,.bool false,.bool false,.bool false,.bool false,.bool false,.bool false,.bool false,.bool false,.bool false,.bool false,.bool false,.bool false,.bool false,.bool false,.bool false,.bool false,.bool false,.bool false,.bool false,.bool false,.bool false,.bool false,.bool false,.bool false,.bool false] 0)
 (k.stV h.2.next 0 256 i).bind fun l=>
 cond j (
 (cf 86 [.string s',ptr h.2.next 0] l).bind fun m=>
 ((some m.1).bind asS).bind fun n=>
 (cf 85 [.string n,ptr h.2.next 0] m.2).bind fun o=>
 ((some o.1).bind asS).bind fun p=>
 some (.string p,st.adv o.2.next)) (
 (cf 88 [.string s',.string cutset'] l).bind fun q=>
 ((some q.1).bind asS).bind fun r=>
 (cf 87 [.string r,.string cutset'] q.2).bind fun s=>
 ((some s.1).bind asS).bind fun t=>
 some (.string t,st.adv s.2.next)))) (
 (cf 84 [.string cutset'] (st.ro st.next)).bind fun u=>
 (zan u.1 0).bind fun v=>
 ((zan u.1 1).bind asB).bind fun w=>
 let x:SS:=u.2.new (.cells [.bool false,.bool false,.bool false,.bool false,.bool false,.bool false,.bool false,.bool false,.bool false,.bool false,.bool false,.bool false,.bool false,.bool false,.bool false,.bool false,.bool false,.bool false,.bool false,.bool false,.bool false,.bool false,.bool false,.bool false,.bool false,.bool false,.bool false,.bool false,.bool false,.bool false,.bool false,.bool false,.bool false,.bool false,.bool false,.bool false,.bool false,.bool false,.bool false,.bool false,.bool false,.bool false,.bool false,.bool false,.bool false,.bool false,.bool false,.bool false,.bool false,.bool false,.bool false,.bool false,.bool false,.bool false,.bool false,.bool false,.bool false,.bool false,.bool false,.bool false,.bool false,.bool false,.bool false,.bool false,.bool false,.bool false,.bool false,.bool false,.bool false,.bool false,.bool false,.bool false,.bool false,.bool false,.bool false,.bool false,.bool false,.bool false,.bool false,.bool false,.bool false,.bool false,.bool false,.bool false,.bool false,.bool false,.bool false,.bool false,.bool false,.bool false,.bool false,.bool false,.bool false,.bool false,.bool false,.bool false,.bool false,.bool false,.bool false,.bool false,.bool false,.bool false,.bool false,.bool false,.bool false,.bool false,.bool false,.bool false,.bool false,.bool false,.bool false,.bool false,.bool false,.bool false,.bool false,.bool false,.bool false,.bool false,.bool false,.bool false,.bool false,.bool false,.bool false,.bool false,.bool false,.bool false,.bool false,.bool false,.bool false,.bool false,.bool false,.bool false,.bool false,.bool false,.bool false,.bool false,.bool false,.bool false,.bool false,.bool false,.bool false,.bool false,.bool false,.bool false,.bool false,.bool false,.bool false,.bool false,.bool false,.bool false,.bool false,.bool false,.bool false,.bool false,.bool false,.bool false,.bool false,.bool false,.bool false,.bool false,.bool false,.bool false,.bool false,.bool false,.bool false,.bool false,.bool false,.bool false,.bool false,.bool false,.bool false,.bool false,.bool false,.bool false,.bool false,.bool false,.bool false,.bool false,.bool false,.bool false,.bool false,.bool false,.bool false,.bool false,.bool false,.bool false,.bool false,.bool false,.bool false,.bool false,.bool false,.bool false,.bool false,.bool false,.bool false,.bool false,.bool false,.bool false,.bool false,.bool false,.bool false,.bool false,.bool false,.bool false,.bool false,.bool false,.bool false,.bool false,.bool false,.bool false,.bool false,.bool false,.bool false,.bool false,.bool false,.bool false,.bool false,.bool false,.bool false,.bool false,.bool false,.bool false,.bool false,.bool false,.bool false,.bool false,.bool false,.bool false,.bool false,.bool false,.bool false,.bool false,.bool false,.bool false,.bool false,.bool false,.bool false,.bool false,.bool false,.bool false,.bool false,.bool false,.bool false,.bool false,.bool false,.bool false,.bool false,.bool false,.bool false,.bool false,.bool false,.bool false,.bool false,.bool false,.bool false,.bool false] 0)
 (x.stV u.2.next 0 256 v).bind fun y=>
 cond w (
 (cf 86 [.string s',ptr u.2.next 0] y).bind fun z=>
 ((some z.1).bind asS).bind fun A=>
 (cf 85 [.string A,ptr u.2.next 0] z.2).bind fun B=>
 ((some B.1).bind asS).bind fun C=>
 some (.string C,st.adv B.2.next)) (
 (cf 88 [.string s',.string cutset'] y).bind fun D=>
 ((some D.1).bind asS).bind fun E=>
 (cf 87 [.string E,.string cutset'] D.2).bind fun F=>
 ((some F.1).bind asS).bind fun G=>
 some (.string G,st.adv F.2.next)))))
noncomputable abbrev znF:zab:=lS Tryz.prog Lk0 Tryz.f63 zav
theorem znG:Lk0.func 63=some (63,Tryz.f63):=by kernel_rfl
theorem znH [Sym] (s':ByteArray) (cutset':ByteArray) (st:SS) {r:Value×SS} (h:zkV cc znF s' cutset' st=some r):cc 63 [.string s',.string cutset'] st=some r:=
 zaf (li:=zav) zah zal znG rfl (fun _=>rfl) (.trans (by kernel_rfl) h)
def zeb:LoopI:=⟨[(0,.str),(1,.any)],[(.exit 0,[(0,.str)])]⟩
def zeo (n:Nat):Option LoopI:=cond (Nat.beq n 1) (some zeb) (none)
noncomputable def strings_trimLeftASCII (cf:zak) (lf:zab) (s':ByteArray) (as':Value) (st:SS):Option (Value×SS):=
 (lf 1 [.string s',as'] (st.ro st.next)).bind fun a=>
 ((a.2.1[0]?).bind asS).bind fun b=>
 some (.string b,st.adv a.2.2.next)
noncomputable abbrev zbZ:zab:=lS Tryz.prog Lk0 Tryz.f85 zeo
theorem zhF:Lk0.func 85=some (85,Tryz.f85):=by kernel_rfl
theorem zhG [Sym] (s':ByteArray) (as':Value) (st:SS) {r:Value×SS} (h:strings_trimLeftASCII cc zbZ s' as' st=some r):cc 85 [.string s',as'] st=some r:=
 zaf (li:=zeo) zah zal zhF rfl (fun _=>rfl) (.trans (by kernel_rfl) h)
noncomputable def zb0 (cf:zak) (lf:zab) (s':ByteArray) (as':Value) (st:SS):Option (Nat×List Value×SS):=
 cond (decide (0<(s'.size:Int))) (
 ((zcB s' 0).bind (asI .u8)).bind fun a=>
 (cf 99 [as',.int .u8 a] st).bind fun b=>
 ((some b.1).bind asB).bind fun c=>
 cond (!c) (
 some (0,[.string s'],b.2)) (
 (zci s' 1 (s'.size:Int)).bind fun d=>
 lf 1 [.string d,as'] b.2)) (
 some (0,[.string s'],st))
theorem zcn [Sym] (s':ByteArray) (as':Value) (st:SS) {r:Nat×List Value×SS} (h:zb0 cc zbZ s' as' st=some r):zbZ 1 [.string s',as'] st=some r:=
 zay zah zal (key:=1) (I:=zeb) rfl (by kernel_rfl) (by kernel_rfl) rfl rfl (.trans (by kernel_rfl) h)
def zdP:LoopI:=⟨[(0,.str),(1,.any)],[(.exit 0,[(0,.str)])]⟩
def zec (n:Nat):Option LoopI:=cond (Nat.beq n 1) (some zdP) (none)
noncomputable def strings_trimRightASCII (cf:zak) (lf:zab) (s':ByteArray) (as':Value) (st:SS):Option (Value×SS):=
 (lf 1 [.string s',as'] (st.ro st.next)).bind fun a=>
 ((a.2.1[0]?).bind asS).bind fun b=>
 some (.string b,st.adv a.2.2.next)
noncomputable abbrev zbT:zab:=lS Tryz.prog Lk0 Tryz.f86 zec
theorem zg3:Lk0.func 86=some (86,Tryz.f86):=by kernel_rfl
theorem zg4 [Sym] (s':ByteArray) (as':Value) (st:SS) {r:Value×SS} (h:strings_trimRightASCII cc zbT s' as' st=some r):cc 86 [.string s',as'] st=some r:=
 zaf (li:=zec) zah zal zg3 rfl (fun _=>rfl) (.trans (by kernel_rfl) h)
noncomputable def zbU (cf:zak) (lf:zab) (s':ByteArray) (as':Value) (st:SS):Option (Nat×List Value×SS):=
 cond (decide (0<(s'.size:Int))) (
 let a:Int:=IntKind.wrap .i64 ((s'.size:Int)-1)
 ((zcB s' a).bind (asI .u8)).bind fun b=>
 (cf 99 [as',.int .u8 b] st).bind fun c=>
 ((some c.1).bind asB).bind fun d=>
 cond (!d) (
 some (0,[.string s'],c.2)) (
 let e:Int:=IntKind.wrap .i64 ((s'.size:Int)-1)
 (zci s' 0 e).bind fun f=>
 lf 1 [.string f,as'] c.2)) (
 some (0,[.string s'],st))
theorem zca [Sym] (s':ByteArray) (as':Value) (st:SS) {r:Nat×List Value×SS} (h:zbU cc zbT s' as' st=some r):zbT 1 [.string s',as'] st=some r:=
 zay zah zal (key:=1) (I:=zdP) rfl (by kernel_rfl) (by kernel_rfl) rfl rfl (.trans (by kernel_rfl) h)
def zep:LoopI:=⟨[(0,.str),(2,.any),(4,.int .i64)],[(.exit 0,[(2,.any)]),(.ret,[(2,.any),(3,.bool)])]⟩
def zeM (n:Nat):Option LoopI:=cond (Nat.beq n 2) (some zep) (none)
noncomputable def strings_makeASCIISet (cf:zak) (lf:zab) (chars':ByteArray) (st:SS):Option (Value×SS):=
 let a:SS:=(st.ro st.next).new (.cells [.bool false,.bool false,.bool false,.bool false,.bool false,.bool false,.bool false,.bool false,.bool false,.bool false,.bool false,.bool false,.bool false,.bool false,.bool false,.bool false,.bool false,.bool false,.bool false,.bool false,.bool false,.bool false,.bool false,.bool false,.bool false,.bool false,.bool false,.bool false,.bool false,.bool false,.bool false,.bool false,.bool false,.bool false,.bool false,.bool false,.bool false,.bool false,.bool false,.bool false,.bool false,.bool false,.bool false,.bool false,.bool false,.bool false,.bool false,.bool false,.bool false,.bool false,.bool false,.bool false,.bool false,.bool false,.bool false,.bool false,.bool false,.bool false,.bool false,.bool false,.bool false,.bool false,.bool false,.bool false,.bool false,.bool false,.bool false,.bool false,.bool false,.bool false,.bool false,.bool false,.bool false,.bool false,.bool false,.bool false,.bool false,.bool false,.bool false,.bool false,.bool false,.bool false,.bool false,.bool false,.bool false,.bool false,.bool false,.bool false,.bool false,.bool false,.bool false,.bool false,.bool false,.bool false,.bool false,.bool false,.bool false,.bool false,.bool false,.bool false,.bool false,.bool false,.bool false,.bool false,.bool false,.bool false,.bool false,.bool false,.bool false,.bool false,.bool false,.bool false,.bool false,.bool false,.bool false,.bool false,.bool false,.bool false,.bool false,.bool false,.bool false,.bool false,.bool false,.bool false,.bool false,.bool false,.bool false,.bool false,.bool false,.bool false,.bool false,.bool false,.bool false,.bool false,.bool false,.bool false,.bool false,.bool false,.bool false,.bool false,.bool false,.bool false,.bool false,.bool false,.bool false,.bool false,.bool false,.bool false,.bool false,.bool false,.bool false,.bool false,.bool false,.bool false,.bool false,.bool false,.bool false,.bool false,.bool false,.bool false,.bool false,.bool false,.bool false,.bool false,.bool false,.bool false,.bool false,.bool false,.bool false,.bool false,.bool false,.bool false,.bool false,.bool false,.bool false,.bool false,.bool false,.bool false,.bool false,.bool false,.bool false,.bool false,.bool false,.bool false,.bool false,.bool false,.bool false,.bool false,.bool false,.bool false,.bool false,.bool false,.bool false,.bool false,.bool false,.bool false,.bool false,.bool false,.bool false,.bool false,.bool false,.bool false,.bool false,.bool false,.bool false,.bool false,.bool false,.bool false,.bool false,.bool false,.bool false,.bool false,.bool false,.bool false,.bool false,.bool false,.bool false,.bool false,.bool false,.bool false,.bool false,.bool false,.bool false,.bool false,.bool false,.bool false,.bool false,.bool false,.bool false,.bool false,.bool false,.bool false,.bool false,.bool false,.bool false,.bool false,.bool false,.bool false,.bool false,.bool false,.bool false,.bool false,.bool false,.bool false,.bool false,.bool false,.bool false,.bool false,.bool false,.bool false,.bool false,.bool false,.bool false,.bool false,.bool false,.bool false] 0)
 (lf 2 [.string chars',ptr ((st.ro st.next).next) 0,.int .i64 0] a).bind fun b=>
 cond (Nat.beq b.1 0) (
 (b.2.1[0]?).bind fun c=>
 (addr? c).bind fun d=>
 (b.2.2.ldN d.1 d.2 256).bind fun e=>
 (addr? c).bind fun f=>
 (b.2.2.stV f.1 f.2 256 e).bind fun g=>
 (addr? c).bind fun h=>
 (g.rdN h.1 h.2 256).bind fun i=>
 cond (flat3 (.tuple #[i,.bool true])) (some (.tuple #[i,.bool true],st.adv g.next)) none) (
 (b.2.1[0]?).bind fun j=>
 ((b.2.1[1]?).bind asB).bind fun k=>
 (addr? j).bind fun l=>
 (b.2.2.rdN l.1 l.2 256).bind fun m=>
 cond (flat3 (.tuple #[m,.bool k])) (some (.tuple #[m,.bool k],st.adv b.2.2.next)) none)
noncomputable abbrev zbC:zab:=lS Tryz.prog Lk0 Tryz.f84 zeM
theorem zhX:Lk0.func 84=some (84,Tryz.f84):=by kernel_rfl
theorem zhY [Sym] (chars':ByteArray) (st:SS) {r:Value×SS} (h:strings_makeASCIISet cc zbC chars' st=some r):cc 84 [.string chars'] st=some r:=
 zaf (li:=zeM) zah zal zhX rfl (fun _=>rfl) (.trans (by kernel_rfl) h)
noncomputable def zcU (cf:zak) (lf:zab) (chars':ByteArray) (as':Value) (i':Int) (st:SS):Option (Nat×List Value×SS):=
 cond (decide (i'<(chars'.size:Int))) (
 ((zcB chars' i').bind (asI .u8)).bind fun a=>
 cond (decide (128≤a)) (
 (addr? as').bind fun b=>
 (st.ldN b.1 b.2 256).bind fun c=>
 (addr? as').bind fun d=>
 (st.stV d.1 d.2 256 c).bind fun e=>
 some (1,[as',.bool false],e)) (
 (zaR as' 256 a 1).bind fun f=>
 (st.st f.1 f.2 [.bool true]).bind fun g=>
 let h:Int:=IntKind.wrap .i64 (i'+1)
 lf 2 [.string chars',as',.int .i64 h] g)) (
 some (0,[as'],st))
theorem zdQ [Sym] (chars':ByteArray) (as':Value) (i':Int) (st:SS) {r:Nat×List Value×SS} (h:zcU cc zbC chars' as' i' st=some r):zbC 2 [.string chars',as',.int .i64 i'] st=some r:=
 zay zah zal (key:=2) (I:=zep) rfl (by kernel_rfl) (by kernel_rfl) rfl rfl (.trans (by kernel_rfl) h)
noncomputable def zed (cf:zak) (lf:zab) (as':Value) (c':Int) (st:SS):Option (Value×SS):=
 (zaj as').bind fun a=>
 (zaR a 256 c' 1).bind fun b=>
 (((st.ro st.next).ld b.1 b.2).bind asB).bind fun c=>
 some (.bool c,st.adv (st.ro st.next).next)
noncomputable abbrev zf8:zab:=lS Tryz.prog Lk0 Tryz.f99 zav
theorem zf9:Lk0.func 99=some (99,Tryz.f99):=by kernel_rfl
theorem zga [Sym] (as':Value) (c':Int) (st:SS) {r:Value×SS} (h:zed cc zf8 as' c' st=some r):cc 99 [as',.int .u8 c'] st=some r:=
 zaf (li:=zav) zah zal zf9 rfl (fun _=>rfl) (.trans (by kernel_rfl) h)
noncomputable def zjQ (cf:zak) (lf:zab) (s':ByteArray) (st:SS):Option (Value×SS):=
 cond (!(eqT s' ⟨#[]⟩)) (
 cond (decide ((s'.size:Int)≤24)) (
 (cf 63 [.string s',.string ⟨#[97,98,99,100,101,102,103,104,105,106,107,108,109,110,111,112,113,114,115,116,117,118,119,120,121,122,65,66,67,68,69,70,71,72,73,74,75,76,77,78,79,80,81,82,83,84,85,86,87,88,89,90,95,48,49,50,51,52,53,54,55,56,57]⟩] (st.ro st.next)).bind fun a=>
 ((some a.1).bind asS).bind fun b=>
 cond (eqT b ⟨#[]⟩) (
 ((zcB s' 0).bind (asI .u8)).bind fun c=>
 cond (decide (c<48)) (
 some (.bool true,st.adv a.2.next)) (
 ((zcB s' 0).bind (asI .u8)).bind fun d=>
 some (.bool (decide (57<d)),st.adv a.2.next))) (
 some (.bool false,st.adv a.2.next))) (
 some (.bool false,st.adv (st.ro st.next).next))) (
 some (.bool false,st.adv (st.ro st.next).next))
noncomputable abbrev zrq:zab:=lS Tryz.prog Lk0 Tryz.f42 zav
theorem zrr:Lk0.func 42=some (42,Tryz.f42):=by kernel_rfl
theorem ziz [Sym] (s':ByteArray) (st:SS) {r:Value×SS} (h:zjQ cc zrq s' st=some r):cc 42 [.string s'] st=some r:=
 zaf (li:=zav) zah zal zrr rfl (fun _=>rfl) (.trans (by kernel_rfl) h)
def zkW:LoopI:=⟨[(1,.any),(16,.any),(17,.int .i64),(18,.int .i64)],[(.exit 0,[]),(.ret,[(2,.bool)])]⟩
def zma (n:Nat):Option LoopI:=cond (Nat.beq n 4) (some zkW) (none)
noncomputable def zhH (cf:zak) (lf:zab) (r':Value) (st:SS):Option (Value×SS):=
 let a:SS:=(st.ro st.next).new (.cells (r':Value).cells.toList 0)
 (a.ld ((st.ro st.next).next) 0).bind fun b=>
 ((lenV b).bind (asI .i64)).bind fun c=>
 cond (decide (2048<c)) (
 some (.bool false,st.adv a.next)) (
 (a.ld ((st.ro st.next).next) 1).bind fun d=>
 ((lenV d).bind (asI .i64)).bind fun e=>
 cond (decide (255<e)) (
 some (.bool false,st.adv a.next)) (
 (a.ld ((st.ro st.next).next) 1).bind fun f=>
 ((lenV f).bind (asI .i64)).bind fun g=>
 (lf 4 [ptr ((st.ro st.next).next) 0,f,.int .i64 g,.int .i64 0] a).bind fun h=>
 cond (Nat.beq h.1 0) (
 some (.bool true,st.adv h.2.2.next)) (
 ((h.2.1[0]?).bind asB).bind fun i=>
 some (.bool i,st.adv h.2.2.next))))
noncomputable abbrev ze1:zab:=lS Tryz.prog Lk0 Tryz.f23 zma
theorem zrt:Lk0.func 23=some (23,Tryz.f23):=by kernel_rfl
theorem ziA [Sym] (r':Value) (st:SS) {r:Value×SS} (h:zhH cc ze1 r' st=some r):cc 23 [r'] st=some r:=
 zaf (li:=zma) zah zal zrt rfl (fun _=>rfl) (.trans (by kernel_rfl) h)
noncomputable def zdd (cf:zak) (lf:zab) (r':Value) (t16':Value) (t17':Int) (t18':Int) (st:SS):Option (Nat×List Value×SS):=
 cond (decide (t18'<t17')) (
 (zau t16' t18' 2).bind fun a=>
 (st.ldN a.1 a.2 2).bind fun b=>
 let c:SS:=st.new (.cells [.string ⟨#[]⟩,.int .i64 0] 0)
 (c.stV st.next 0 2 b).bind fun d=>
 ((d.ld st.next 0).bind asS).bind fun e=>
 (cf 42 [.string e] d).bind fun f=>
 ((some f.1).bind asB).bind fun g=>
 cond (!g) (
 some (1,[.bool false],f.2)) (
 ((f.2.ld st.next 1).bind (asI .i64)).bind fun h=>
 cond (decide (h<0)) (
 some (1,[.bool false],f.2)) (
 ((f.2.ld st.next 1).bind (asI .i64)).bind fun i=>
 (addr? r').bind fun j=>
 (f.2.ld j.1 j.2).bind fun k=>
 ((lenV k).bind (asI .i64)).bind fun l=>
 cond (decide (l≤i)) (
 some (1,[.bool false],f.2)) (
 (addr? r').bind fun m=>
 (f.2.ld m.1 (m.2+1)).bind fun n=>
 (f.2.resl n 2 0 t18').bind fun o=>
 (cf 43 [o,.func (.func 44) #[] #[ptr st.next 0]] f.2).bind fun p=>
 ((some p.1).bind asB).bind fun q=>
 cond q (
 some (1,[.bool false],p.2)) (
 let r:Int:=IntKind.wrap .i64 (t18'+1)
 lf 4 [r',t16',.int .i64 t17',.int .i64 r] p.2))))) (
 some (0,[],st))
theorem zcM [Sym] (r':Value) (t16':Value) (t17':Int) (t18':Int) (st:SS) {r:Nat×List Value×SS} (h:zdd cc ze1 r' t16' t17' t18' st=some r):ze1 4 [r',t16',.int .i64 t17',.int .i64 t18'] st=some r:=
 zay zah zal (key:=4) (I:=zkW) rfl (by kernel_rfl) (by kernel_rfl) rfl rfl (.trans (by kernel_rfl) h)
noncomputable def entEq (cf:zak) (lf:zab) (x':Value) (x1':Value) (st:SS):Option (Value×SS):=
 let a:SS:=(st.ro st.next).new (.cells (x':Value).cells.toList 0)
 ((a.ld ((st.ro st.next).next) 0).bind asS).bind fun b=>
 (addr? x1').bind fun c=>
 ((a.ld c.1 c.2).bind asS).bind fun d=>
 some (.bool (eqT b d),st.adv a.next)
noncomputable abbrev zv1:zab:=lS Tryz.prog Lk0 Tryz.f44 zav
theorem zv2:Lk0.func 44=some (44,Tryz.f44):=by kernel_rfl
theorem zv3 [Sym] (x':Value) (x1':Value) (st:SS) {r:Value×SS} (h:entEq cc zv1 x' x1' st=some r):cc 44 [x',x1'] st=some r:=
 zaf (li:=zav) zah zal zv2 rfl (fun _=>rfl) (.trans (by kernel_rfl) h)
noncomputable def zoE (cf:zak) (lf:zab) (s':Value) (q':Nat) (st:SS):Option (Value×SS):=
 (cf 64 [s',.func (.func 44) #[] #[ptr q' 0]] (st.ro st.next)).bind fun a=>
 ((some a.1).bind (asI .i64)).bind fun b=>
 some (.bool (decide (0≤b)),st.adv a.2.next)
noncomputable abbrev zsU:zab:=lS Tryz.prog Lk0 Tryz.f43 zav
theorem zsV:Lk0.func 43=some (43,Tryz.f43):=by kernel_rfl
theorem zsW [Sym] (s':Value) (q':Nat) (st:SS) {r:Value×SS} (h:zoE cc zsU s' q' st=some r):cc 43 [s',.func (.func 44) #[] #[ptr q' 0]] st=some r:=
 zaf (li:=zav) zah zal zsV rfl (fun _=>rfl) (.trans (by kernel_rfl) h)
def znI:LoopI:=⟨[(0,.any),(1,.any),(7,.int .i64),(8,.int .i64)],[(.exit 0,[]),(.ret,[(4,.int .i64)])]⟩
def zpn (n:Nat):Option LoopI:=cond (Nat.beq n 2) (some znI) (none)
noncomputable def zqB (cf:zak) (lf:zab) (s':Value) (q':Nat) (st:SS):Option (Value×SS):=
 ((lenV s').bind (asI .i64)).bind fun a=>
 (lf 2 [s',.func (.func 44) #[] #[ptr q' 0],.int .i64 a,.int .i64 0] (st.ro st.next)).bind fun b=>
 cond (Nat.beq b.1 0) (
 some (.int .i64 (-1),st.adv b.2.2.next)) (
 ((b.2.1[0]?).bind (asI .i64)).bind fun c=>
 some (.int .i64 c,st.adv b.2.2.next))
noncomputable abbrev zgt:zab:=lS Tryz.prog Lk0 Tryz.f64 zpn
theorem zup:Lk0.func 64=some (64,Tryz.f64):=by kernel_rfl
theorem zpo [Sym] (s':Value) (q':Nat) (st:SS) {r:Value×SS} (h:zqB cc zgt s' q' st=some r):cc 64 [s',.func (.func 44) #[] #[ptr q' 0]] st=some r:=
 zaf (li:=zpn) zah zal zup rfl (fun _=>rfl) (.trans (by kernel_rfl) h)
noncomputable def zid (cf:zak) (lf:zab) (s':Value) (q':Nat) (t7':Int) (t8':Int) (st:SS):Option (Nat×List Value×SS):=
 cond (decide (t8'<t7')) (
 (zau s' t8' 2).bind fun a=>
 (st.ldN a.1 a.2 2).bind fun b=>
 (cf 44 [b,ptr q' 0] st).bind fun c=>
 ((some c.1).bind asB).bind fun d=>
 cond d (
 some (1,[.int .i64 t8'],c.2)) (
 let e:Int:=IntKind.wrap .i64 (t8'+1)
 lf 2 [s',.func (.func 44) #[] #[ptr q' 0],.int .i64 t7',.int .i64 e] c.2)) (
 some (0,[],st))
theorem zhI [Sym] (s':Value) (q':Nat) (t7':Int) (t8':Int) (st:SS) {r:Nat×List Value×SS} (h:zid cc zgt s' q' t7' t8' st=some r):zgt 2 [s',.func (.func 44) #[] #[ptr q' 0],.int .i64 t7',.int .i64 t8'] st=some r:=
 zay zah zal (key:=2) (I:=znI) rfl (by kernel_rfl) (by kernel_rfl) rfl rfl (.trans (by kernel_rfl) h)
def zkX:LoopI:=⟨[(1,.str),(9,.any),(10,.int .i64),(11,.int .i64)],[(.exit 0,[]),(.ret,[(4,.int .i64),(5,.bool)])]⟩
def zmb (n:Nat):Option LoopI:=cond (Nat.beq n 2) (some zkX) (none)
noncomputable def zmR (cf:zak) (lf:zab) (r':Value) (name':ByteArray) (st:SS):Option (Value×SS):=
 let a:SS:=(st.ro st.next).new (.cells (r':Value).cells.toList 0)
 (a.ld ((st.ro st.next).next) 1).bind fun b=>
 ((lenV b).bind (asI .i64)).bind fun c=>
 (lf 2 [.string name',b,.int .i64 c,.int .i64 0] a).bind fun d=>
 cond (Nat.beq d.1 0) (
 some (.tuple #[.int .i64 0,.bool false],st.adv d.2.2.next)) (
 ((d.2.1[0]?).bind (asI .i64)).bind fun e=>
 ((d.2.1[1]?).bind asB).bind fun f=>
 some (.tuple #[.int .i64 e,.bool f],st.adv d.2.2.next))
noncomputable abbrev zd2:zab:=lS Tryz.prog Lk0 Tryz.f27 zmb
theorem zru:Lk0.func 27=some (27,Tryz.f27):=by kernel_rfl
theorem zrv [Sym] (r':Value) (name':ByteArray) (st:SS) {r:Value×SS} (h:zmR cc zd2 r' name' st=some r):cc 27 [r',.string name'] st=some r:=
 zaf (li:=zmb) zah zal zru rfl (fun _=>rfl) (.trans (by kernel_rfl) h)
noncomputable def ze2 (cf:zak) (lf:zab) (name':ByteArray) (t9':Value) (t10':Int) (t11':Int) (st:SS):Option (Nat×List Value×SS):=
 cond (decide (t11'<t10')) (
 (zau t9' t11' 2).bind fun a=>
 (st.ldN a.1 a.2 2).bind fun b=>
 let c:SS:=st.new (.cells [.string ⟨#[]⟩,.int .i64 0] 0)
 (c.stV st.next 0 2 b).bind fun d=>
 ((d.ld st.next 0).bind asS).bind fun e=>
 cond (eqT e name') (
 ((d.ld st.next 1).bind (asI .i64)).bind fun f=>
 some (1,[.int .i64 f,.bool true],d)) (
 let g:Int:=IntKind.wrap .i64 (t11'+1)
 lf 2 [.string name',t9',.int .i64 t10',.int .i64 g] d)) (
 some (0,[],st))
theorem zeE [Sym] (name':ByteArray) (t9':Value) (t10':Int) (t11':Int) (st:SS) {r:Nat×List Value×SS} (h:ze2 cc zd2 name' t9' t10' t11' st=some r):zd2 2 [.string name',t9',.int .i64 t10',.int .i64 t11'] st=some r:=
 zay zah zal (key:=2) (I:=zkX) rfl (by kernel_rfl) (by kernel_rfl) rfl rfl (.trans (by kernel_rfl) h)
end Go.Proofs.YtcplfckncandkaaGreatDoorE
namespace Go.Proofs.YtcplfckncandkaaGreatDoorE
set_option maxRecDepth 20000
open Go Go.E Go.Proofs
def zbF:List UInt8:=[97,98,99,100,101,102,103,104,105,106,107,108,109,110,111,112,113,114,115,116,117,118,119,120,121,122,65,66,67,68,69,70,71,72,73,74,75,76,77,78,79,80,81,82,83,84,85,86,87,88,89,90,95,48,49,50,51,52,53,54,55,56,57]
def nmB (n:Nat):Bool:=(Nat.ble 97 n&&Nat.ble n 122)||((Nat.ble 65 n&&Nat.ble n 90)||(Nat.beq n 95||(Nat.ble 48 n&&Nat.ble n 57)))
def setRow (l:List UInt8):List Value:=(List.range 256).map fun i=>.bool (l.any fun b=>Nat.beq b.toNat i)
theorem zeF (l:List UInt8):(setRow l).length=256:=by simp [setRow]
theorem znJ (l:List UInt8):(setRow l).all one=true:=by simp [setRow,one]
theorem zsX (l:List UInt8) (c:UInt8):(setRow l).set c.toNat (.bool true)=setRow (l++[c]):=by
 apply List.ext_getElem?
 intro i
 have hc:c.toNat<256:=c.toNat_lt
 rw [List.getElem?_set]
 by_cases h:c.toNat=i
 ·subst h
  simp [setRow,hc,zar]
 ·simp only [setRow,h,if_false,List.getElem?_map,List.any_append,List.any_cons,List.any_nil,Bool.or_false,zar]
  cases hr:(List.range 256)[i]? with
  | none=>rfl
  | some j=>
    have:j=i:=by
     obtain ⟨h1,h2⟩:=List.getElem?_eq_some_iff.1 hr
     simpa using h2.symm
    subst this
    simp [h]
theorem zv4:((List.range 256).all fun n=>(zbF.any fun b=>Nat.beq b.toNat n)==nmB n)=true:=by kernel_rfl
theorem zsY (b:UInt8):(setRow zbF)[b.toNat]?=some (.bool (nmB b.toNat)):=by
 have hb:b.toNat<256:=b.toNat_lt
 have h:=List.all_eq_true.1 zv4 b.toNat (List.mem_range.2 hb)
 rw [beq_iff_eq] at h
 unfold setRow
 rw [List.getElem?_map,List.getElem?_range hb,Option.map_some,h]
theorem zqC {b:Nat} (c:UInt8):zaR (ptr b 0) 256 (c.toNat:Int) 1=some (b,0+c.toNat*1):=by
 have h0:(0:Int)≤(c.toNat:Int):=by omega
 have h1:(c.toNat:Int)<((256:Nat):Int):=by have:=c.toNat_lt;omega
 show cond (decide ((0:Int)≤(c.toNat:Int))&&decide ((c.toNat:Int)<((256:Nat):Int))) _ _=_
 rw [zdt h0,zdt h1];rfl
theorem zsZ [Sym] (b:Nat):∀ (k i:Nat) (s:SS),zbF.length=k+i→At s b (setRow (zbF.take i))→∃ s',zbC 2 [.string (mkS zbF),ptr b 0,.int .i64 i] s=some (0,[ptr b 0],s')∧At s' b (setRow zbF)∧Mod [b] s s':=by
 intro k
 induction k with
 | zero=>
   intro i s hk ha
   have h:¬ (i:Int)<((mkS zbF).size:Int):=by rw [zcs];omega
   rw [List.take_of_length_le (by omega)] at ha
   refine ⟨s,zdQ _ _ _ s ?_,ha,.refl s⟩
   simp only [zcU,zdf h,zcf]
 | succ k ih=>
   intro i s hk ha
   have h:(i:Int)<((mkS zbF).size:Int):=by rw [zcs];omega
   obtain ⟨c,hc⟩:∃ c,zbF[i]?=some c:=⟨_,zge (by omega)⟩
   have hx:(zcB (mkS zbF) (i:Int)).bind (asI .u8)=some (c.toNat:Int):=zeB (by rw [zbI];exact hc)
   have hlt:¬ (128:Int)≤(c.toNat:Int):=by
    have h1:(zbF.all fun c=>Nat.blt c.toNat 128)=true:=by kernel_rfl
    have:=List.all_eq_true.1 h1 c (zmg hc)
    rw [Nat.blt_eq] at this
    omega
   obtain ⟨s',e1,a1,m1,n1⟩:=ha.set1 (k:=0+c.toNat*1) (x:=.bool true) (by rw [zeF];have:=c.toNat_lt;omega) rfl
   have ek:0+c.toNat*1=c.toNat:=by omega
   have htk:zbF.take i++[c]=zbF.take (i+1):=by rw [List.take_add_one,hc];rfl
   have a2:At s' b (setRow (zbF.take (i+1))):=by rw [← htk,← zsX,← ek];exact a1
   obtain ⟨s2,f1,f2,f3⟩:=ih (i+1) s' (by omega) a2
   have hw:=zaX (i:=i) (by have:zbF.length=63:=rfl;omega)
   refine ⟨s2,zdQ _ _ _ s ?_,f2,m1.then f3⟩
   simp only [zcU,zdt h,zct,hx,zob,zdf hlt,zcf,zqC,e1,hw]
   exact f1
theorem zxg (l:List UInt8):flat3 (.tuple #[.agg (setRow l).toArray,.bool true])=true:=by
 have h:(setRow l).all zbn=true:=by simp [setRow,zbn]
 simp [flat3,zaB,zbn,h]
theorem zv5 [Sym] (st:SS):∃ n,st.next≤n∧cc 84 [.string (mkS zbF)] st=some (.tuple #[.agg (setRow zbF).toArray,.bool true],st.adv n):=by
 have a0:At ((st.ro st.next).new (.cells (setRow []) 0)) st.next (setRow (zbF.take 0)):=At.new (st:=st.ro st.next) (zlr _) _
 obtain ⟨s2,f1,f2,f3⟩:=zsZ st.next 63 0 _ rfl a0
 have f1':zbC 2 [.string (mkS zbF),ptr (st.ro st.next).next 0,.int .i64 0] ((st.ro st.next).new (.cells (setRow []) 0))=some (0,[ptr st.next 0],s2):=f1
 have l5:s2.ldN st.next 0 256=some (.agg (setRow zbF).toArray):=f2.ldN (zeF _)
 obtain ⟨s7,e7,a7,m7,n7⟩:=f2.stV (k:=0) (zaG _) (zeF zbF) (znJ _) (row':=setRow zbF) (by rw [zbu (by omega)];simp)
 have l9:s7.rdN st.next 0 256=some (.agg (setRow zbF).toArray):=a7.rdN (zeF _)
 have b0:Nat.beq 0 0=true:=rfl
 refine ⟨s7.next,?_,zhY _ st ?_⟩
 ·have h1:=f3.next;have h2:=m7.next
  have h3:((st.ro st.next).new (.cells (setRow []) 0)).next=st.next+1:=rfl
  omega
 ·refine zbi.2 ⟨_,f1',?_⟩
  simp only [b0,zct,zgz,zob,zad,l5,e7,l9,zxg]
theorem zmc [Sym] {st:SS} {b:Nat} (ha:st.mem.get b=some (.cells (setRow zbF) 0)) (c:UInt8):cc 99 [ptr b 0,.int .u8 c.toNat] st=some (.bool (nmB c.toNat),st):=by
 have l:(st.ro st.next).ld b (0+c.toNat*1)=some (.bool (nmB c.toNat)):=by
  have:(st.ro st.next).ld b (0+c.toNat*1)=st.ld b (0+c.toNat*1):=rfl
  rw [this,SS.ld_cells ha,Nat.zero_add,Nat.mul_one,zsY]
 have hn:zaj (ptr b 0)=some (ptr b 0):=rfl
 refine zga _ _ st ?_
 simp only [zed,hn,zob,zqC,l,zai]
 rfl
theorem zv6 {l:List UInt8} (h:l≠[]):∃ q x,l=q++[x]:=⟨l.dropLast,l.getLast h,(List.dropLast_concat_getLast h).symm⟩
theorem zs3 [Sym] {b:Nat} {s:SS} (ha:s.mem.get b=some (.cells (setRow zbF) 0)):∀ (k:Nat) (l:List UInt8),l.length=k→k≤1000000→
  ∃ r t,zbT 1 [.string (mkS l),ptr b 0] s=some (0,[.string (mkS r)],s)∧l=r++t∧(t.all fun c=>nmB c.toNat)=true∧(r=[]∨∃ q x,r=q++[x]∧nmB x.toNat=false):=by
 intro k
 induction k with
 | zero=>
   intro l hl _
   have:l=[]:=List.length_eq_zero_iff.1 hl
   subst this
   refine ⟨[],[],zca _ _ s ?_,rfl,rfl,.inl rfl⟩
   have h:¬ (0:Int)<((mkS []).size:Int):=by rw [zcs];simp
   simp only [zbU,zdf h,zcf]
 | succ k ih=>
   intro l hl hk
   obtain ⟨q,x,rfl⟩:=zv6 (l:=l) (fun e=>by subst e;simp at hl)
   rw [List.length_append,List.length_singleton] at hl
   have h:(0:Int)<((mkS (q++[x])).size:Int):=by rw [zcs,List.length_append,List.length_singleton];omega
   have hw:IntKind.wrap .i64 (((mkS (q++[x])).size:Int)-1)=(q.length:Int):=by rw [zcs,List.length_append,List.length_singleton,wrap64 (by omega) (by omega)];omega
   have hx:(zcB (mkS (q++[x])) (q.length:Int)).bind (asI .u8)=some (x.toNat:Int):=zeB (by rw [zbI];simp)
   have c2:=zmc ha x
   have hs:zci (mkS (q++[x])) 0 (q.length:Int)=some (mkS q):=by
    rw [zgq (by omega) (by omega) (by rw [zcs,List.length_append];omega),zdZ]
    simp
   cases hn:nmB x.toNat with
   | false=>
     rw [hn] at c2
     refine ⟨q++[x],[],zca _ _ s ?_,by simp,rfl,.inr ⟨q,x,rfl,hn⟩⟩
     simp only [zbU,zdt h,zct,hw,hx,zob,c2,zai,znf]
   | true=>
     rw [hn] at c2
     obtain ⟨r,t,f1,f2,f3,f4⟩:=ih q (by omega) (by omega)
     refine ⟨r,t++[x],zca _ _ s ?_,by rw [f2,List.append_assoc],by rw [List.all_append,f3];simp [hn],f4⟩
     simp only [zbU,zdt h,zct,hw,hx,zob,c2,zai,znt,zcf,hs]
     exact f1
theorem zs4 [Sym] {b:Nat} {s:SS} (ha:s.mem.get b=some (.cells (setRow zbF) 0)):∀ (l:List UInt8),
  ∃ t r,zbZ 1 [.string (mkS l),ptr b 0] s=some (0,[.string (mkS r)],s)∧l=t++r∧(t.all fun c=>nmB c.toNat)=true∧(r=[]∨∃ x q,r=x::q∧nmB x.toNat=false):=by
 intro l
 induction l with
 | nil=>
   refine ⟨[],[],zcn _ _ s ?_,rfl,rfl,.inl rfl⟩
   have h:¬ (0:Int)<((mkS []).size:Int):=by rw [zcs];simp
   simp only [zb0,zdf h,zcf]
 | cons x q ih=>
   have h:(0:Int)<((mkS (x::q)).size:Int):=by rw [zcs,List.length_cons];omega
   have hx:(zcB (mkS (x::q)) 0).bind (asI .u8)=some (x.toNat:Int):=zeB (j:=0) (by rw [zbI];rfl)
   have c2:=zmc ha x
   have hs:zci (mkS (x::q)) 1 ((mkS (x::q)).size:Int)=some (mkS q):=by
    rw [zgq (by omega) (by rw [zcs,List.length_cons];omega) (Int.le_refl _),zdZ]
    simp
   cases hn:nmB x.toNat with
   | false=>
     rw [hn] at c2
     refine ⟨[],x::q,zcn _ _ s ?_,rfl,rfl,.inr ⟨x,q,rfl,hn⟩⟩
     simp only [zb0,zdt h,zct,hx,zob,c2,zai,znf]
   | true=>
     rw [hn] at c2
     obtain ⟨t,r,f1,f2,f3,f4⟩:=ih
     refine ⟨x::t,r,zcn _ _ s ?_,by rw [f2];rfl,by rw [List.all_cons,f3,hn];rfl,f4⟩
     simp only [zb0,zdt h,zct,hx,zob,c2,zai,znt,zcf,hs]
     exact f1
theorem zxh [Sym] {l:List UInt8} (h0:l≠[]) (h1:l.length≤1000000) (st:SS):∃ n r,st.next≤n∧cc 63 [.string (mkS l),.string (mkS zbF)] st=some (.string (mkS r),st.adv n)∧(decide (r=[])=l.all fun c=>nmB c.toNat):=by
 obtain ⟨n8,hn8,c8⟩:=zv5 (st.ro st.next)
 obtain ⟨s12,e12,a12,x12,n12⟩:=zaV (n:=256) (st:=(st.ro st.next).adv n8) hn8 (r:=setRow []) (row:=setRow zbF) (v:=.agg (setRow zbF).toArray) (zaG _) (zeF _) (znJ _) (zeF _)
 have m12:s12.mem.get n8=some (.cells (setRow zbF) 0):=a12.1
 obtain ⟨r,t,f1,f2,f3,f4⟩:=zs3 (s:=s12.ro s12.next) m12 l.length l rfl h1
 have c13:cc 86 [.string (mkS l),ptr n8 0] s12=some (.string (mkS r),s12):=by
  refine zg4 _ _ s12 ?_
  simp only [strings_trimRightASCII,f1,zob,zgz,zac]
  rfl
 obtain ⟨t2,r2,g1,g2,g3,g4⟩:=zs4 (s:=s12.ro s12.next) m12 r
 have c15:cc 85 [.string (mkS r),ptr n8 0] s12=some (.string (mkS r2),s12):=by
  refine zhG _ _ s12 ?_
  simp only [strings_trimLeftASCII,g1,zob,zgz,zac]
  rfl
 have e0:eqT (mkS l) ⟨#[]⟩=false:=by rw [zd1];exact zdf h0
 have e1:eqT (mkS zbF) ⟨#[]⟩=false:=rfl
 have e2:decide (((mkS zbF).size:Int)=1)=false:=rfl
 refine ⟨s12.next,r2,?_,znH _ _ st ?_,?_⟩
 ·have h2:s12.next=n8+1:=n12
  have h3:st.next≤n8:=hn8
  omega
 ·unfold zkV
  rw [e0,e1,e2]
  simp only [zcf]
  refine zbi.2 ⟨_,c8,?_⟩
  refine zbi.2 ⟨_,rfl,?_⟩
  refine zbi.2 ⟨_,rfl,?_⟩
  refine zbi.2 ⟨_,e12,?_⟩
  simp only [zct]
  refine zbi.2 ⟨_,c13,?_⟩
  refine zbi.2 ⟨_,rfl,?_⟩
  refine zbi.2 ⟨_,c15,?_⟩
  rfl
 ·rw [f2,List.all_append,f3,Bool.and_true]
  cases ha:r.all fun c=>nmB c.toNat with
  | true=>
    refine zdt ?_
    rcases f4 with rfl | ⟨q,x,rfl,hx⟩
    ·exact (show t2=[]∧r2=[] by simpa using g2.symm).2
    ·rw [List.all_append,List.all_cons,hx] at ha;simp at ha
  | false=>
    refine zdf fun e=>?_
    subst e
    rw [List.append_nil] at g2
    subst g2
    rw [g3] at ha;cases ha
def zjR (n:Nat):Bool:=(Nat.ble 97 n&&Nat.ble n 122)||((Nat.ble 65 n&&Nat.ble n 90)||Nat.beq n 95)
def digB (n:Nat):Bool:=Nat.ble 48 n&&Nat.ble n 57
theorem nmB_or (n:Nat):nmB n=(zjR n||digB n):=by
 unfold nmB zjR digB
 cases Nat.ble 97 n&&Nat.ble n 122<;>cases Nat.ble 65 n&&Nat.ble n 90<;>cases Nat.beq n 95<;>cases Nat.ble 48 n&&Nat.ble n 57<;>rfl
theorem zv7 (n:Nat):zjR n=true↔(97≤n∧n≤122)∨(65≤n∧n≤90)∨n=95:=by
 unfold zjR;simp only [Bool.or_eq_true,zae,Nat.ble_eq,zar,decide_eq_true_eq]
def zjS (l:List UInt8):Bool:=match l with
 | []=>false
 | c::r=>zjR c.toNat&&((r.all fun c=>nmB c.toNat)&&Nat.ble r.length 23)
theorem znK (c:UInt8) (r:List UInt8):zjS (c::r)=(zjR c.toNat&&((r.all fun c=>nmB c.toNat)&&Nat.ble r.length 23)):=rfl
theorem zs5 [Sym] (l:List UInt8) (st:SS):∃ n,st.next≤n∧cc 42 [.string (mkS l)] st=some (.bool (zjS l),st.adv n):=by
 cases l with
 | nil=>
   have e0:eqT (mkS []) ⟨#[]⟩=true:=rfl
   refine ⟨st.next,zlr _,ziz _ st ?_⟩
   simp only [zjQ,e0,znt,zcf]
   rfl
 | cons c r=>
   have e0:eqT (mkS (c::r)) ⟨#[]⟩=false:=rfl
   by_cases hl:r.length≤23
   ·have h24:((mkS (c::r)).size:Int)≤24:=by rw [zcs,List.length_cons];omega
    obtain ⟨n,t,hn,c1,ht⟩:=zxh (l:=c::r) (by simp) (by simp;omega) (st.ro st.next)
    have c1':cc 63 [.string (mkS (c::r)),.string (mkS zbF)] (st.ro st.next)=some (.string (mkS t),(st.ro st.next).adv n):=c1
    have hx:(zcB (mkS (c::r)) 0).bind (asI .u8)=some (c.toNat:Int):=zeB (j:=0) (by rw [zbI];rfl)
    have hb:Nat.ble r.length 23=true:=by rw [Nat.ble_eq];exact hl
    refine ⟨n,hn,ziz _ st ?_⟩
    unfold zjQ
    rw [e0]
    simp only [znf,zct,zdt h24]
    refine zbi.2 ⟨_,c1',?_⟩
    simp only [zob,zac,zd1,ht,hx]
    have key:((c::r).all fun c=>nmB c.toNat)=(nmB c.toNat&&(r.all fun c=>nmB c.toNat)):=by rw [List.all_cons]
    rw [key]
    have hnt:zjS (c::r)=(zjR c.toNat&&(r.all fun c=>nmB c.toNat)):=by
     rw [znK,hb,Bool.and_true]
    rw [hnt]
    cases hr:r.all fun c=>nmB c.toNat with
    | false=>simp only [Bool.and_false,zcf];rfl
    | true=>
      simp only [Bool.and_true]
      rw [nmB_or]
      cases h1:zjR c.toNat with
      | true=>
        simp only [Bool.true_or,zct]
        have h3:(c.toNat:Int)<48∨57<(c.toNat:Int):=by
         rw [zv7] at h1
         omega
        rcases h3 with h3 | h3
        ·unfold zjR at h1
         simp only [Bool.or_eq_true,zae,Nat.ble_eq,zar,decide_eq_true_eq] at h1
         omega
        ·have h4:¬ (c.toNat:Int)<48:=by omega
         simp only [zdf h4,zcf,zdt h3]
         rfl
      | false=>
        simp only [Bool.false_or]
        cases h2:digB c.toNat with
        | false=>simp only [zcf];rfl
        | true=>
          unfold digB at h2
          simp only [zae,Nat.ble_eq] at h2
          have h4:¬ (c.toNat:Int)<48:=by omega
          have h5:¬ (57:Int)<(c.toNat:Int):=by omega
          simp only [zct,zdf h4,zcf,zdf h5]
          rfl
   ·have h24:¬ ((mkS (c::r)).size:Int)≤24:=by rw [zcs,List.length_cons];omega
    have hb:Nat.ble r.length 23=false:=by rw [Bool.eq_false_iff];intro h;rw [Nat.ble_eq] at h;exact hl h
    refine ⟨st.next,zlr _,ziz _ st ?_⟩
    simp only [zjQ,e0,znf,zct,zdf h24,zcf,znK,hb,Bool.and_false]
    rfl
end Go.Proofs.YtcplfckncandkaaGreatDoorE
