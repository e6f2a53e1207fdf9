/- Parts of the proof of UseqRuns, packed by a program: an evaluator over the given code, functions as plain texts, their laws. -/
import Derived.Shelf.Small.Strs
import Derived.Shelf.Strings.Search1
import Derived.Shelf.Strings.Search2
import Derived.Shelf.Strings.Search3
import Derived.Shelf.Strings.Count
import Derived.Shelf.Pu.ToError
import Derived.Shelf.Pu.ToErrorRange
import Derived.Ground.MpProg
import Derived.Shelf.Strings.Fields
import Derived.Shelf.Strconv.Itoa3
import Derived.Test.YtifploedaacedaaGreatDoorProg
import Derived.KernelRfl
import Derived.Test.YtifploedaacedaaGreatDoorPRB
set_option linter.unusedVariables false
set_option linter.unusedSimpArgs false
namespace Go.E
open Go
structure Mod (S:List Nat) (a b:SS):Prop where
 next:a.next≤b.next
 lim:b.lim=a.lim
 keep:∀ j,j<a.next→j∉S→b.mem.get j=a.mem.get j
section
variable {S T : List Nat} {a b c : SS} {i n : Nat}
theorem Mod.refl (a:SS):Mod S a a:=⟨zlr _,rfl,fun _ _ _=>rfl⟩
theorem Mod.ofExt (h:Ext a b):Mod S a b:=⟨h.next,h.lim,fun j hj _=>h.keep j hj⟩
theorem Mod.toExt (h:Mod [] a b):Ext a b:=⟨h.next,h.lim,fun j hj=>h.keep j hj (by simp)⟩
theorem Mod.trans (h:Mod S a b) (k:Mod T b c) (hT:∀ j,j∈T→j<a.next→j∈S):Mod S a c:=
 ⟨zlt h.next k.next,k.lim.trans h.lim,fun j hj hS=>(k.keep j (zll hj h.next) (fun hm=>hS (hT j hm hj))).trans (h.keep j hj hS)⟩
theorem Mod.then (h:Mod S a b) (k:Mod S b c):Mod S a c:=h.trans k fun _ hj _=>hj
theorem Mod.thenE (h:Mod S a b) (k:Mod [] b c):Mod S a c:=h.trans k fun _ hj _=>by cases hj
theorem Mod.thenX (h:Mod S a b) (k:Ext b c):Mod S a c:=h.thenE (.ofExt k)
theorem Mod.thenI (h:Mod S a b) (k:Mod [i] b c) (hi:a.next≤i∨i∈S):Mod S a c:=h.trans k fun j hj hlt=>by
 have:j=i:=by simpa using hj
 subst this
 rcases hi with hi | hi
 ·omega
 ·exact hi
theorem Mod.mono (h:Mod S a b) (hS:∀ j,j∈S→j∈T):Mod T a b:=⟨h.next,h.lim,fun j hj hT=>h.keep j hj fun hm=>hT (hS j hm)⟩
theorem Mod.fresh (h:Mod S a b) (hS:∀ j,j∈S→a.next≤j):Ext a b:=⟨h.next,h.lim,fun j hj=>h.keep j hj fun hm=>by have:=hS j hm;omega⟩
theorem Mod.ll (h:Mod S a b) (hl:a.lim≤a.next):b.lim≤b.next:=by rw [h.lim];exact zlt hl h.next
theorem Ext.ll (h:Ext a b) (hl:a.lim≤a.next):b.lim≤b.next:=by rw [h.lim];exact zlt hl h.next
theorem Ext.advR (a:SS) (hn:a.next≤n):Ext a (a.adv n):=(Ext.refl a).adv hn
theorem Mod.get {x:Option AObj} (h:Mod S a b) (hi:i<a.next) (hS:i∉S) (hx:a.mem.get i=x):b.mem.get i=x:=(h.keep i hi hS).trans hx
theorem Rd.mod {v:Value} {c:List Value} {z n:Nat} (h:Rd a v c z n) (m:Mod S a b) (hv:∀ j k l q,v=.slice (some ⟨j,k,none⟩) l q→j∉S):Rd b v c z n:=by
 obtain ⟨h1,h2⟩:=h
 refine ⟨h1,h2.imp id ?_⟩
 rintro ⟨i,cap,e,⟨z',hm⟩,hi⟩
 exact ⟨i,cap,e,⟨z',m.get hi (hv i 0 n cap e) hm⟩,zll hi m.next⟩
theorem Own.mod {B:Nat} {v:Value} {c:List Value} {z n:Nat} (h:Own B a v c z n) (m:Mod S a b) (hv:∀ j k l q,v=.slice (some ⟨j,k,none⟩) l q→j∉S):Own B b v c z n:=by
 obtain ⟨h1,h2⟩:=h
 refine ⟨h1,h2.imp id ?_⟩
 rintro ⟨i,e,h0,hm,hb,hi⟩
 exact ⟨i,e,h0,m.get hi (hv i 0 n n e) hm,hb,zll hi m.next⟩
end
def At (st:SS) (i:Nat) (row:List Value):Prop:=st.mem.get i=some (.cells row 0)∧i<st.next∧st.lim≤i
section
variable {S : List Nat} {st st' : SS} {i k n : Nat} {row row' vs : List Value}
theorem At.mem (h:At st i row):st.mem.get i=some (.cells row 0):=h.1
theorem At.lt (h:At st i row):i<st.next:=h.2.1
theorem At.mod (h:At st i row) (m:Mod S st st') (hi:i∉S):At st' i row:=⟨m.get h.lt hi h.1,zll h.lt m.next,by rw [m.lim];exact h.2.2⟩
theorem At.ext (h:At st i row) (m:Ext st st'):At st' i row:=h.mod (S:=[]) (.ofExt m) (by simp)
theorem At.adv (h:At st i row) (hn:st.next≤n):At (st.adv n) i row:=h.ext (.advR st hn)
theorem At.ld (h:At st i row):st.ld i k=row[k]?:=SS.ld_cells h.1
theorem At.rd (h:At st i row):st.rd i k=row[k]?:=SS.rd_cells h.1
theorem At.ldN (h:At st i row) (hn:row.length=n):st.ldN i 0 n=some (.agg row.toArray):=by rw [SS.ldN_cells h.1,zgN hn];rfl
theorem At.rdN (h:At st i row) (hn:row.length=n):st.rdN i 0 n=some (.agg row.toArray):=by rw [SS.rdN_cells h.1,zgN hn];rfl
theorem At.ldC (h:At st i row) {d:List Value} (hd:cut row k n=some d):st.ldN i k n=some (.agg d.toArray):=by rw [SS.ldN_cells h.1,hd];rfl
theorem At.sto (h:At st i row) (h1:vs.all one=true) (hs:zc6 row k vs=some row'):∃ st',st.st i k vs=some st'∧At st' i row'∧Mod [i] st st'∧st'.next=st.next:=
 ⟨_,SS.st_cells h.1 h.2.2 h1 hs,⟨by simp,h.2.1,h.2.2⟩,⟨zlr _,rfl,fun j hj hS=>SS.set_old (by simpa using hS)⟩,rfl⟩
theorem At.stV (h:At st i row) {v:Value} (hv:v.cells.toList=vs) (hn:vs.length=n) (h1:vs.all one=true) (hs:zc6 row k vs=some row'):∃ st',st.stV i k n v=some st'∧At st' i row'∧Mod [i] st st'∧st'.next=st.next:=by
 obtain ⟨st',a,b,c,d⟩:=h.sto h1 hs
 refine ⟨st',?_,b,c,d⟩
 unfold SS.stV
 have e:v.cells.size=n:=by rw [← hn,← hv];simp
 rw [e,hv,a]
 simp
theorem At.new (hl:st.lim≤st.next) (row:List Value):At (st.new (.cells row 0)) st.next row:=⟨by simp,by simp,hl⟩
theorem Mod.new (ob:AObj):Mod [] st (st.new ob):=.ofExt ((Ext.refl st).new ob)
theorem zaP (hl:st.lim≤st.next) {r:List Value} {v:Value} (hv:v.cells.toList=row) (hn:row.length=n) (h1:row.all one=true) (hr:r.length=n):∃ st',(st.new (.cells r 0)).stV st.next 0 n v=some st'∧At st' st.next row∧Ext st st'∧st'.next=st.next+1:=by
 obtain ⟨st',a,b,c,d⟩:=(At.new hl r).stV (k:=0) hv hn h1 (row':=row) (by rw [zbE (by omega)];simp [hn,hr])
 refine ⟨st',a,b,?_,d⟩
 exact (((Mod.new (.cells r 0)).mono (T:=[st.next]) (by simp)).then c).fresh (by simp)
theorem zlS (hl:st.lim≤st.next) {r:List Value} (h1:row.all one=true) (hr:r.length=row.length):∃ st',(st.new (.cells r 0)).st st.next 0 row=some st'∧At st' st.next row∧Ext st st'∧st'.next=st.next+1:=by
 obtain ⟨st',a,b,c,d⟩:=(At.new hl r).sto (k:=0) (vs:=row) (row':=row) h1 (by rw [zbE (by omega)];simp [hr])
 exact ⟨st',a,b,(((Mod.new (.cells r 0)).mono (T:=[st.next]) (by simp)).then c).fresh (by simp),d⟩
end
theorem zaB (row:List Value):(Value.agg row.toArray).cells.toList=row:=by simp [Value.cells]
theorem Own.modLt {S:List Nat} {a b:SS} {B:Nat} {v:Value} {c:List Value} {z n:Nat} (h:Own B a v c z n) (m:Mod S a b) (hS:∀ j,j∈S→j<B):Own B b v c z n:=by
 obtain ⟨h1,h2⟩:=h
 refine ⟨h1,h2.imp id ?_⟩
 rintro ⟨i,e,h0,hm,hb,hi⟩
 exact ⟨i,e,h0,m.get hi (fun hx=>by have:=hS i hx;omega) hm,hb,zll hi m.next⟩
theorem Rd.row1 {st:SS} {row:List Value} {z:Nat} (h:row.length=z):Rd (st.new (.cells row z)) (.slice (some ⟨st.next,0,none⟩) 1 1) row z 1:=
 ⟨by rw [h,Nat.one_mul],.inr ⟨st.next,1,rfl,⟨z,SS.new_get⟩,by simp⟩⟩
theorem Own.push {b:Nat} {st:SS} {v:Value} {c row:List Value} {z n bt:Nat} (h:Own b st v c z n) (hb:b≤st.next) (hl:st.lim≤b) (hr:row.length=z) (hz:0<z) (h1:row.all one=true) (hs:(n+2)*bt≤2^44) (hn:n+1≤2^44):
  ∃ v' st',(st.new (.cells row z)).app z bt v (.slice (some ⟨st.next,0,none⟩) 1 1)=some (v',st')∧Own b st' v' (c++row) z (n+1)∧(∀ st0,st0.next≤b→Ext st0 st→Ext st0 st')∧st'.lim=st.lim∧st.next≤st'.next∧
   ∀ j,j<st.next→(∀ q,v≠.slice (some ⟨j,0,none⟩) q q)→st'.mem.get j=st.mem.get j:=by
 obtain ⟨v',st',g1,g2,g3,g4,g5,g6⟩:=(h.ext ((Ext.refl st).new (.cells row z))).app (Rd.row1 (st:=st) hr) (zlt hb (Nat.le_succ _)) hl hz h1 (bt:=bt) (by simpa [Nat.add_assoc] using hs) hn
 exact ⟨v',st',g1,g2,fun st0 h0 he=>g5 st0 h0 (he.new _),g3,zlt (Nat.le_succ _) g4,fun j hj hv=>by rw [g6 j (by simp;omega) hv,SS.new_old (by omega)]⟩
theorem Own.pushM {b:Nat} {st:SS} {v:Value} {c row:List Value} {z n bt:Nat} (h:Own b st v c z n) (hb:b≤st.next) (hl:st.lim≤b) (hr:row.length=z) (hz:0<z) (h1:row.all one=true) (hs:(n+2)*bt≤2^44) (hn:n+1≤2^44):
  ∃ v' st',(st.new (.cells row z)).app z bt v (.slice (some ⟨st.next,0,none⟩) 1 1)=some (v',st')∧Own b st' v' (c++row) z (n+1)∧st'.lim=st.lim∧st.next≤st'.next∧(∀ j,j<b→st'.mem.get j=st.mem.get j):=by
 obtain ⟨v',st',g1,g2,g3,g4,g5,g6⟩:=h.push hb hl hr hz h1 hs hn
 refine ⟨v',st',g1,g2,g4,g5,fun j hj=>g6 j (by omega) fun q e=>?_⟩
 obtain ⟨_,⟨rfl,_⟩ | ⟨i,rfl,_,_,hbi,_⟩⟩:=h
 ·cases e
 ·cases e;omega
structure Keep (B:Nat) (S:List Nat) (a b:SS):Prop where
 next:a.next≤b.next
 lim:b.lim=a.lim
 keep:∀ j,j<B→j∉S→b.mem.get j=a.mem.get j
section
variable {S : List Nat} {a b c : SS} {B i : Nat}
theorem Keep.refl (a:SS):Keep B S a a:=⟨zlr _,rfl,fun _ _ _=>rfl⟩
theorem Keep.then (h:Keep B S a b) (k:Keep B S b c):Keep B S a c:=⟨zlt h.next k.next,k.lim.trans h.lim,fun j hj hS=>(k.keep j hj hS).trans (h.keep j hj hS)⟩
theorem Mod.keepB (h:Mod S a b) (hB:B≤a.next):Keep B S a b:=⟨h.next,h.lim,fun j hj hS=>h.keep j (by omega) hS⟩
theorem Ext.keepB (h:Ext a b) (hB:B≤a.next):Keep B S a b:=⟨h.next,h.lim,fun j hj _=>h.keep j (by omega)⟩
theorem Keep.mod (h:Keep B S a b) (hB:a.next≤B):Mod S a b:=⟨h.next,h.lim,fun j hj hS=>h.keep j (by omega) hS⟩
theorem Keep.mono {B':Nat} {T:List Nat} (h:Keep B S a b) (hB:B'≤B) (hS:∀ j,j∈S→j<B'→j∈T):Keep B' T a b:=⟨h.next,h.lim,fun j hj hT=>h.keep j (by omega) fun hm=>hT (hS j hm hj)⟩
theorem Keep.thenX (h:Keep B S a b) (k:Ext b c) (hB:B≤b.next):Keep B S a c:=h.then (k.keepB hB)
theorem Keep.thenM (h:Keep B S a b) (k:Mod S b c) (hB:B≤b.next):Keep B S a c:=h.then (k.keepB hB)
theorem Keep.thenI (h:Keep B S a b) (k:Mod [i] b c) (hB:B≤b.next) (hi:B≤i∨i∈S):Keep B S a c:=h.then ⟨k.next,k.lim,fun j hj hS=>k.keep j (by omega) fun hm=>by
 have:j=i:=by simpa using hm
 subst this
 rcases hi with hi | hi
 ·omega
 ·exact hS hi⟩
theorem Keep.ll (h:Keep B S a b) (hl:a.lim≤a.next):b.lim≤b.next:=by rw [h.lim];exact zlt hl h.next
theorem At.keepB {row:List Value} (h:At a i row) (k:Keep B S a b) (hB:i<B) (hi:i∉S):At b i row:=⟨(k.keep i hB hi).trans h.1,zll h.2.1 k.next,by rw [k.lim];exact h.2.2⟩
theorem Own.cell {v:Value} {c:List Value} {z n:Nat} (h:Own B a v c z n):v.cells.toList=[v]∧one v=true:=by
 obtain ⟨_,⟨rfl,_⟩ | ⟨i,rfl,_⟩⟩:=h<;>exact ⟨rfl,rfl⟩
theorem Own.pushK {b:Nat} {st:SS} {v:Value} {c row:List Value} {z n bt:Nat} (h:Own b st v c z n) (hb:b≤st.next) (hl:st.lim≤b) (hr:row.length=z) (hz:0<z) (h1:row.all one=true) (hs:(n+2)*bt≤2^44) (hn:n+1≤2^44):
  ∃ v' st',(st.new (.cells row z)).app z bt v (.slice (some ⟨st.next,0,none⟩) 1 1)=some (v',st')∧Own b st' v' (c++row) z (n+1)∧∀ S,Keep b S st st':=by
 obtain ⟨v',st',g1,g2,g3,g4,g5⟩:=h.pushM hb hl hr hz h1 hs hn
 exact ⟨v',st',g1,g2,fun S=>⟨g4,g3,fun j hj _=>g5 j hj⟩⟩
end
theorem Own.pushN {b:Nat} {st:SS} {v:Value} {c row:List Value} {z n bt:Nat} (h:Own b st v c z n) (hb:b≤st.next) (hl:st.lim≤b) (hr:row.length=z) (hz:0<z) (h1:row.all one=true) (hs:(n+2)*bt≤2^44) (hn:n+1≤2^44):
  ∃ k st',(st.new (.cells row z)).app z bt v (.slice (some ⟨st.next,0,none⟩) 1 1)=some (.slice (some ⟨k,0,none⟩) (n+1) (n+1),st')∧st.next≤k∧Own b st' (.slice (some ⟨k,0,none⟩) (n+1) (n+1)) (c++row) z (n+1)∧st'.lim=st.lim∧st.next≤st'.next∧
   ∀ j,j<st.next→(∀ q,v≠.slice (some ⟨j,0,none⟩) q q)→st'.mem.get j=st.mem.get j:=by
 obtain ⟨v',st',g1,g2,g3,g4,g5,g6⟩:=h.push hb hl hr hz h1 hs hn
 have key:∃ k,v'=.slice (some ⟨k,0,none⟩) (n+1) (n+1)∧st.next≤k:=by
  have hx:=Rd.row1 (st:=st) hr
  obtain ⟨e1,e2⟩:=hx.first
  unfold SS.app at g1
  rw [e1] at g1
  simp only [zob] at g1
  have hm0:Nat.beq 1 0=false:=rfl
  obtain ⟨h2,h3⟩:=h
  rcases h3 with ⟨rfl,rfl⟩ | ⟨i,rfl,h0,hmem,hbi,hi⟩
  ·have q:(Nat.ble ((1+1)*bt) (2^44)&&Nat.ble 1 (2^44))=true:=by
    simp only [zae,Nat.ble_eq]
    simp only [Nat.zero_add] at hs
    exact ⟨hs,by omega⟩
   simp only [hm0,zcf,q,zct,e2,zob] at g1
   cases g1
   exact ⟨_,rfl,by simp⟩
  ·have q:(Nat.ble ((n+1+1)*bt) (2^44)&&Nat.ble (n+1) (2^44)&&Nat.ble (st.new (.cells row z)).lim i)=true:=by
    simp only [zae,Nat.ble_eq]
    exact ⟨⟨hs,hn⟩,by simp;omega⟩
   have q2:(Nat.beq z z&&(Nat.blt n (n+1)||Nat.ble (0+n*z) c.length))=true:=by
    have a:Nat.beq z z=true:=by rw [zat];simp
    have b':Nat.blt n (n+1)=true:=by rw [Nat.blt_eq];omega
    rw [a,b'];rfl
   have hmem':(st.new (.cells row z)).mem.get i=some (.cells c z):=by rw [SS.new_old (by omega)];exact hmem
   simp only [hm0,zcf,q,zct,hmem',zob,q2,zgN h2,e2,h1] at g1
   cases g1
   exact ⟨_,rfl,by simp⟩
 obtain ⟨k,rfl,hk⟩:=key
 exact ⟨k,st',g1,hk,g2,g4,g5,g6⟩
theorem zcS {s:SS} {j0 j1 n:Nat} {row0 row1:List Value} (h0:At s j0 row0) (l0:row0.length=n) (h1:At s j1 row1) (l1:row1.length=n) (ho:row1.all one=true):
  ∃ s',s.ldN j1 0 n=some (.agg row1.toArray)∧s.stV j0 0 n (.agg row1.toArray)=some s'∧s'.rdN j0 0 n=some (.agg row1.toArray)∧Mod [j0] s s'∧At s' j0 row1:=by
 obtain ⟨s',e,a,m,_⟩:=h0.stV (k:=0) (zaB row1) l1 ho (row':=row1) (by rw [zbE (by omega)];simp [l0,l1])
 exact ⟨s',h1.ldN l1,e,a.rdN l1,m,a⟩
def rowsF {α:Type} (f:α→List Value) (l:List α):List Value:=l.flatMap f
section
variable {α : Type} {f : α → List Value} {z : Nat}
theorem zbF (a b:List α):rowsF f (a++b)=rowsF f a++rowsF f b:=by simp [rowsF]
theorem zbZ (a:α) (b:List α):rowsF f (a::b)=f a++rowsF f b:=by simp [rowsF]
theorem zcC (a:α):rowsF f [a]=f a:=by simp [rowsF]
theorem zhf (hz:∀ x,(f x).length=z) (l:List α):(rowsF f l).length=l.length*z:=by
 induction l with
 | nil=>simp [rowsF]
 | cons a l ih=>rw [zbZ,List.length_append,ih,hz,List.length_cons,Nat.add_mul];omega
theorem zaL (hz:∀ x,(f x).length=z) (l:List α) (i:Nat) (x:α) (h:l[i]?=some x):((rowsF f l).drop (i*z)).take z=f x:=by
 induction l generalizing i with
 | nil=>cases h
 | cons a l ih=>
   rw [zbZ]
   cases i with
   | zero=>
     have:a=x:=by simpa using h
     subst this
     rw [Nat.zero_mul,List.drop_zero,List.take_append_of_le_length (by rw [hz];omega),List.take_of_length_le (by rw [hz];omega)]
   | succ i=>
     have e:(i+1)*z=(f a).length+i*z:=by rw [hz,Nat.add_mul];omega
     rw [e,List.drop_append,List.drop_of_length_le (by omega),List.nil_append,Nat.add_sub_cancel_left]
     exact ih i (by simpa using h)
end
theorem wrapI {i k:Nat} (h:i≤1099511627776) (hk:k≤1099511627776):IntKind.wrap .i64 ((i:Int)+(k:Int))=((i+k:Nat):Int):=by rw [wrap64 (by omega) (by omega)];omega
theorem zaR {i:Nat} (h:i≤1099511627776):IntKind.wrap .i64 ((i:Int)+1)=((i+1:Nat):Int):=wrapI h (k:=1) (by omega)
end Go.E
namespace Go.E
open Go
def Rg (st:SS) (v:Value) (c:List Value) (z n:Nat):Prop:=
 c.length=n*z∧((v=.slice none 0 0∧n=0)∨∃ i cap C,v=.slice (some ⟨i,0,none⟩) n cap∧n≤cap∧i<st.next∧C.take (n*z)=c∧((∃ z',(z'=z∨z'=0)∧st.mem.get i=some (.cells C z'))∨st.mem.get i=some (.table C)))
section
variable {S : List Nat} {st st' : SS} {v : Value} {c : List Value} {z n B : Nat}
theorem Rg.len (h:Rg st v c z n):lenV v=some (.int .i64 (n:Int)):=by
 obtain ⟨_,⟨rfl,rfl⟩ | ⟨i,cap,C,rfl,_⟩⟩:=h<;>rfl
theorem Rg.lenI (h:Rg st v c z n):(lenV v).bind (asI .i64)=some (n:Int):=by rw [h.len];rfl
theorem Rg.sl (h:Rg st v c z n):sliceLen v=some (n:Int):=by
 obtain ⟨_,⟨rfl,rfl⟩ | ⟨i,cap,C,rfl,_⟩⟩:=h<;>rfl
theorem Rg.cell (h:Rg st v c z n):v.cells.toList=[v]∧one v=true:=by
 obtain ⟨_,⟨rfl,rfl⟩ | ⟨i,cap,C,rfl,_⟩⟩:=h<;>exact ⟨rfl,rfl⟩
theorem Own.rg (h:Own B st v c z n):Rg st v c z n:=by
 obtain ⟨h1,h2⟩:=h
 refine ⟨h1,h2.imp id ?_⟩
 rintro ⟨i,e,h0,hm,hb,hi⟩
 exact ⟨i,n,c,e,zlr _,hi,by rw [← h1,List.take_length],.inl ⟨z,.inl rfl,hm⟩⟩
theorem Rg.keep (h:Rg st v c z n) (hn:st.next≤st'.next) (hk:∀ i l cap,v=.slice (some ⟨i,0,none⟩) l cap→i<st.next→st'.mem.get i=st.mem.get i):Rg st' v c z n:=by
 obtain ⟨h1,h2⟩:=h
 refine ⟨h1,h2.imp id ?_⟩
 rintro ⟨i,cap,C,e,hc,hi,ht,hm⟩
 rw [← hk i _ _ e hi] at hm
 exact ⟨i,cap,C,e,hc,zll hi hn,ht,hm⟩
theorem Rg.ext (h:Rg st v c z n) (he:Ext st st'):Rg st' v c z n:=h.keep he.next fun i l cap e hi=>he.keep i hi
theorem Rg.mod (h:Rg st v c z n) (m:Mod S st st') (hv:∀ i l cap,v=.slice (some ⟨i,0,none⟩) l cap→i∉S):Rg st' v c z n:=h.keep m.next fun i l cap e hi=>m.keep i hi (hv i l cap e)
theorem zvY {C c:List Value} {n k z:Nat} (h:C.take n=c) (hk:k+z≤c.length):cut C k z=some ((c.drop k).take z):=by
 subst h
 rw [List.length_take] at hk
 refine zlO ?_ ?_
 ·rw [List.drop_take,List.take_take,Nat.min_eq_left (by omega)]
 ·simp;omega
theorem Rg.load (h:Rg st v c z n) {j:Int} (h0:0≤j) (h1:j<n) {row:List Value} (hr:(c.drop (j.toNat*z)).take z=row) (hz:row.length=z):
  ∃ p,zam v j z=some p∧st.ldN p.1 p.2 z=some (.agg row.toArray)∧∀ k x,row[k]?=some x→st.ld p.1 (p.2+k)=some x:=by
 obtain ⟨hc,⟨rfl,rfl⟩ | ⟨i,cap,C,rfl,hcap,hi,ht,hm⟩⟩:=h
 ·omega
 have hb:j.toNat*z+z≤c.length:=by
  have h2:j.toNat+1≤n:=by omega
  have h3:=Nat.mul_le_mul_right z h2
  rw [Nat.add_mul,Nat.one_mul] at h3
  omega
 have e0:zam (.slice (some ⟨i,0,none⟩) n cap) j z=some (i,0+j.toNat*z):=by
  unfold zam
  simp only [zdt h0,zdt h1,Bool.and_self,zct]
 have hcut:=zvY (k:=j.toNat*z) (z:=z) ht hb
 rw [hr] at hcut
 have hget:∀ k x,row[k]?=some x→C[j.toNat*z+k]?=some x:=fun k x hx=>by
  rw [← hr,List.getElem?_take] at hx
  split at hx
  ·rw [List.getElem?_drop,← ht,List.getElem?_take] at hx
   split at hx
   ·exact hx
   ·cases hx
  ·cases hx
 refine ⟨_,e0,?_,fun k x hx=>?_⟩
 ·simp only [Nat.zero_add]
  rcases hm with ⟨z',_,hm⟩ | hm
  ·rw [SS.ldN_cells hm,hcut];rfl
  ·rw [SS.ldN_table hm,hcut];rfl
 ·simp only [Nat.zero_add]
  rcases hm with ⟨z',_,hm⟩ | hm
  ·rw [SS.ld_cells hm];exact hget k x hx
  ·rw [SS.ld_table hm];exact hget k x hx
theorem Rg.resl (h:Rg st v c z n) {m:Nat} (hm:m≤n):∃ v',st.resl v z 0 (m:Int)=some v'∧Rg st v' (c.take (m*z)) z m:=by
 obtain ⟨hc,⟨rfl,rfl⟩ | ⟨i,cap,C,rfl,hcap,hi,ht,hmm⟩⟩:=h
 ·have:m=0:=by omega
  subst this
  exact ⟨.slice none 0 0,rfl,by simp,.inl ⟨rfl,rfl⟩⟩
 have h1:decide ((m:Int)≤(cap:Int))=true:=zdt (by omega)
 have h2:decide ((0:Int)≤(m:Int))=true:=zdt (by omega)
 have h4:cond (Nat.beq cap 0) 0 (0+0*z)=0:=by cases Nat.beq cap 0<;>simp
 have hle:m*z≤n*z:=Nat.mul_le_mul_right z hm
 have hres:st.resl (.slice (some ⟨i,0,none⟩) n cap) z 0 (m:Int)=some (.slice (some ⟨i,0,none⟩) m cap):=by
  unfold SS.resl
  rcases hmm with ⟨z',hz',hmm⟩ | hmm
  ·have hq:(Nat.beq z' z||Nat.beq z' 0)=true:=by
    simp only [Bool.or_eq_true,zat,decide_eq_true_eq];exact hz'
   simp only [hmm,zob,hq,h1,h2,zct,Int.toNat_zero,h4,Int.toNat_natCast,Nat.sub_zero,Int.le_refl,decide_true,Bool.and_self]
  ·simp only [hmm,zob,h1,h2,zct,Int.toNat_zero,h4,Int.toNat_natCast,Nat.sub_zero,Int.le_refl,decide_true,Bool.and_self]
 exact ⟨_,hres,by rw [List.length_take];omega,.inr ⟨i,cap,C,rfl,by omega,hi,by rw [← ht,List.take_take,Nat.min_eq_left hle],hmm⟩⟩
theorem Tv.rg {α:Type} {f:α→List Value} {l:List α} {id:Nat} (hz:∀ x,(f x).length=z) (h:Tv id l.length v) (hm:st.mem.get id=some (.table (l.flatMap f))) (hi:id<st.next):Rg st v (rowsF f l) z l.length:=by
 have e:=zhf (f:=f) (z:=z) hz l
 refine ⟨e,h.imp (fun h=>h) fun ⟨cap,h1,h2,_⟩=>⟨_,cap,l.flatMap f,h1,h2,hi,?_,.inr hm⟩⟩
 have e':(l.flatMap f).length=l.length*z:=e
 rw [← e',List.take_length];rfl
theorem zoq {α:Type} {f:α→List Value} (hz:∀ x,(f x).length=z) (l:List α) (m:Nat):(rowsF f l).take (m*z)=rowsF f (l.take m):=by
 induction l generalizing m with
 | nil=>simp [rowsF]
 | cons a l ih=>
   cases m with
   | zero=>simp [rowsF]
   | succ m=>
     have e:(m+1)*z=(f a).length+m*z:=by rw [hz,Nat.add_mul];omega
     rw [zbZ,List.take_succ_cons,zbZ,e,List.take_append,List.take_of_length_le (by omega),Nat.add_sub_cancel_left,ih]
end
theorem zsp {row:List Value} {k:Nat} (x:Value) (h:k<row.length):zc6 row k [x]=some (row.set k x):=by
 rw [zbE (by simp;omega),List.set_eq_take_append_cons_drop]
 rw [if_pos h];rfl
theorem At.set1 {st:SS} {i k:Nat} {row:List Value} (h:At st i row) {x:Value} (hk:k<row.length) (h1:one x=true):∃ st',st.st i k [x]=some st'∧At st' i (row.set k x)∧Mod [i] st st'∧st'.next=st.next:=
 h.sto (by simp [h1]) (zsp x hk)
theorem At.set1V {st:SS} {i k:Nat} {row:List Value} (h:At st i row) {x:Value} (hc:x.cells.toList=[x]) (hk:k<row.length) (h1:one x=true):∃ st',st.stV i k 1 x=some st'∧At st' i (row.set k x)∧Mod [i] st st'∧st'.next=st.next:=
 h.stV hc rfl (by simp [h1]) (zsp x hk)
end Go.E
namespace Go.Proofs
open Go.Shelf
def Tryz.lays137_ren:Go.Shelf.Ren:=⟨fun | 137=>110 | 217=>132 | 266=>148 | n=>n,fun | 9=>9 | 5=>5 | 3=>3 | n=>n,fun | n=>n⟩
theorem Tryz.lays137:Go.Proofs.Lays.n137 Tryz.prog Tryz.lays137_ren:={
 mixed:=by kernel_rfl
 f137:=Tryz.func110.trans (congrArg some (by kernel_rfl))
 f217:=Tryz.func132.trans (congrArg some (by kernel_rfl))
 f266:=Tryz.func148.trans (congrArg some (by kernel_rfl))
 t3:=Tryz.underlying3
 a3:=Tryz.isAgg3
 z3:=Tryz.sizeOf3
 v3:=Tryz.zeroValue3
 t5:=Tryz.underlying5
 a5:=Tryz.isAgg5
 z5:=Tryz.sizeOf5
 v5:=Tryz.zeroValue5
 t9:=Tryz.underlying9
 a9:=Tryz.isAgg9
 z9:=Tryz.sizeOf9
 v9:=Tryz.zeroValue9 }
def Tryz.lays217_ren:Go.Shelf.Ren:=⟨fun | 217=>132 | 266=>148 | n=>n,fun | 9=>9 | 5=>5 | 3=>3 | n=>n,fun | n=>n⟩
theorem Tryz.lays217:Go.Proofs.Lays.n217 Tryz.prog Tryz.lays217_ren:={
 mixed:=by kernel_rfl
 f217:=Tryz.func132.trans (congrArg some (by kernel_rfl))
 f266:=Tryz.func148.trans (congrArg some (by kernel_rfl))
 t3:=Tryz.underlying3
 a3:=Tryz.isAgg3
 z3:=Tryz.sizeOf3
 v3:=Tryz.zeroValue3
 t5:=Tryz.underlying5
 a5:=Tryz.isAgg5
 z5:=Tryz.sizeOf5
 v5:=Tryz.zeroValue5
 t9:=Tryz.underlying9
 a9:=Tryz.isAgg9
 z9:=Tryz.sizeOf9
 v9:=Tryz.zeroValue9 }
def Tryz.lays143_ren:Go.Shelf.Ren:=⟨fun | 143=>129 | 219=>144 | 217=>132 | 225=>157 | 224=>158 | 267=>159 | 266=>148 | 314=>175 | n=>n,fun | 9=>9 | 3=>3 | 4=>4 | 5=>5 | 46=>65 | 146=>244 | 51=>238 | n=>n,fun | 1=>1 | n=>n⟩
theorem Tryz.lays143:Go.Proofs.Lays.n143 Tryz.prog Tryz.lays143_ren:={
 mixed:=by kernel_rfl
 f143:=Tryz.func129.trans (congrArg some (by kernel_rfl))
 f217:=Tryz.func132.trans (congrArg some (by kernel_rfl))
 f219:=Tryz.func144.trans (congrArg some (by kernel_rfl))
 f224:=Tryz.func158.trans (congrArg some (by kernel_rfl))
 f225:=Tryz.func157.trans (congrArg some (by kernel_rfl))
 f266:=Tryz.func148.trans (congrArg some (by kernel_rfl))
 f267:=Tryz.func159.trans (congrArg some (by kernel_rfl))
 f314:=Tryz.func175.trans (congrArg some (by kernel_rfl))
 t3:=Tryz.underlying3
 a3:=Tryz.isAgg3
 z3:=Tryz.sizeOf3
 v3:=Tryz.zeroValue3
 t4:=Tryz.underlying4
 a4:=Tryz.isAgg4
 z4:=Tryz.sizeOf4
 v4:=Tryz.zeroValue4
 t5:=Tryz.underlying5
 a5:=Tryz.isAgg5
 z5:=Tryz.sizeOf5
 v5:=Tryz.zeroValue5
 t9:=Tryz.underlying9
 a9:=Tryz.isAgg9
 z9:=Tryz.sizeOf9
 v9:=Tryz.zeroValue9
 t46:=Tryz.underlying65
 a46:=Tryz.isAgg65
 z46:=Tryz.sizeOf65
 v46:=Tryz.zeroValue65
 t51:=Tryz.underlying238
 a51:=Tryz.isAgg238
 z51:=Tryz.sizeOf238
 v51:=Tryz.zeroValue238
 t146:=Tryz.underlying244
 a146:=Tryz.isAgg244
 z146:=Tryz.sizeOf244
 v146:=Tryz.zeroValue244
 g1:=by kernel_rfl }
def Tryz.lays138_ren:Go.Shelf.Ren:=⟨fun | 138=>128 | 195=>142 | 218=>143 | 143=>129 | 219=>144 | 217=>132 | 225=>157 | 224=>158 | 267=>159 | 266=>148 | 314=>175 | n=>n,fun | 9=>9 | 3=>3 | 4=>4 | 5=>5 | 0=>0 | 46=>65 | 146=>244 | 51=>238 | n=>n,fun | 1=>1 | n=>n⟩
theorem Tryz.lays138:Go.Proofs.Lays.n138 Tryz.prog Tryz.lays138_ren:={
 mixed:=by kernel_rfl
 f138:=Tryz.func128.trans (congrArg some (by kernel_rfl))
 f143:=Tryz.func129.trans (congrArg some (by kernel_rfl))
 f195:=Tryz.func142.trans (congrArg some (by kernel_rfl))
 f217:=Tryz.func132.trans (congrArg some (by kernel_rfl))
 f218:=Tryz.func143.trans (congrArg some (by kernel_rfl))
 f219:=Tryz.func144.trans (congrArg some (by kernel_rfl))
 f224:=Tryz.func158.trans (congrArg some (by kernel_rfl))
 f225:=Tryz.func157.trans (congrArg some (by kernel_rfl))
 f266:=Tryz.func148.trans (congrArg some (by kernel_rfl))
 f267:=Tryz.func159.trans (congrArg some (by kernel_rfl))
 f314:=Tryz.func175.trans (congrArg some (by kernel_rfl))
 t0:=Tryz.underlying0
 a0:=Tryz.isAgg0
 z0:=Tryz.sizeOf0
 v0:=Tryz.zeroValue0
 t3:=Tryz.underlying3
 a3:=Tryz.isAgg3
 z3:=Tryz.sizeOf3
 v3:=Tryz.zeroValue3
 t4:=Tryz.underlying4
 a4:=Tryz.isAgg4
 z4:=Tryz.sizeOf4
 v4:=Tryz.zeroValue4
 t5:=Tryz.underlying5
 a5:=Tryz.isAgg5
 z5:=Tryz.sizeOf5
 v5:=Tryz.zeroValue5
 t9:=Tryz.underlying9
 a9:=Tryz.isAgg9
 z9:=Tryz.sizeOf9
 v9:=Tryz.zeroValue9
 t46:=Tryz.underlying65
 a46:=Tryz.isAgg65
 z46:=Tryz.sizeOf65
 v46:=Tryz.zeroValue65
 t51:=Tryz.underlying238
 a51:=Tryz.isAgg238
 z51:=Tryz.sizeOf238
 v51:=Tryz.zeroValue238
 t146:=Tryz.underlying244
 a146:=Tryz.isAgg244
 z146:=Tryz.sizeOf244
 v146:=Tryz.zeroValue244
 g1:=by kernel_rfl }
def Tryz.lays157_ren:Go.Shelf.Ren:=⟨fun | 157=>149 | 229=>167 | 199=>168 | 261=>178 | 311=>181 | 312=>182 | n=>n,fun | 9=>9 | 31=>54 | 3=>3 | 5=>5 | 4=>4 | 119=>233 | 0=>0 | 40=>235 | 152=>250 | 21=>21 | 154=>252 | 51=>238 | 141=>254 | 196=>263 | 193=>260 | 198=>266 | 49=>264 | 194=>261 | 201=>269 | 226=>273 | 46=>65 | 227=>274 | n=>n,fun | 0=>2 | 6=>8 | n=>n⟩
theorem Tryz.lays157:Go.Proofs.Lays.n157 Tryz.prog Tryz.lays157_ren:={
 mixed:=by kernel_rfl
 f157:=Tryz.func149.trans (congrArg some (by kernel_rfl))
 f199:=Tryz.func168.trans (congrArg some (by kernel_rfl))
 f229:=Tryz.func167.trans (congrArg some (by kernel_rfl))
 f261:=Tryz.func178.trans (congrArg some (by kernel_rfl))
 f311:=Tryz.func181.trans (congrArg some (by kernel_rfl))
 f312:=Tryz.func182.trans (congrArg some (by kernel_rfl))
 t0:=Tryz.underlying0
 a0:=Tryz.isAgg0
 z0:=Tryz.sizeOf0
 v0:=Tryz.zeroValue0
 t3:=Tryz.underlying3
 a3:=Tryz.isAgg3
 z3:=Tryz.sizeOf3
 v3:=Tryz.zeroValue3
 t4:=Tryz.underlying4
 a4:=Tryz.isAgg4
 z4:=Tryz.sizeOf4
 v4:=Tryz.zeroValue4
 t5:=Tryz.underlying5
 a5:=Tryz.isAgg5
 z5:=Tryz.sizeOf5
 v5:=Tryz.zeroValue5
 t9:=Tryz.underlying9
 a9:=Tryz.isAgg9
 z9:=Tryz.sizeOf9
 v9:=Tryz.zeroValue9
 t21:=Tryz.underlying21
 a21:=Tryz.isAgg21
 z21:=Tryz.sizeOf21
 v21:=Tryz.zeroValue21
 t31:=Tryz.underlying54
 a31:=Tryz.isAgg54
 z31:=Tryz.sizeOf54
 v31:=Tryz.zeroValue54
 t40:=Tryz.underlying235
 a40:=Tryz.isAgg235
 z40:=Tryz.sizeOf235
 v40:=Tryz.zeroValue235
 t46:=Tryz.underlying65
 a46:=Tryz.isAgg65
 z46:=Tryz.sizeOf65
 v46:=Tryz.zeroValue65
 t49:=Tryz.underlying264
 a49:=Tryz.isAgg264
 z49:=Tryz.sizeOf264
 v49:=Tryz.zeroValue264
 t51:=Tryz.underlying238
 a51:=Tryz.isAgg238
 z51:=Tryz.sizeOf238
 v51:=Tryz.zeroValue238
 t119:=Tryz.underlying233
 a119:=Tryz.isAgg233
 z119:=Tryz.sizeOf233
 t141:=Tryz.underlying254
 a141:=Tryz.isAgg254
 z141:=Tryz.sizeOf254
 v141:=Tryz.zeroValue254
 t152:=Tryz.underlying250
 a152:=Tryz.isAgg250
 z152:=Tryz.sizeOf250
 v152:=Tryz.zeroValue250
 t154:=Tryz.underlying252
 a154:=Tryz.isAgg252
 z154:=Tryz.sizeOf252
 v154:=Tryz.zeroValue252
 t193:=Tryz.underlying260
 a193:=Tryz.isAgg260
 z193:=Tryz.sizeOf260
 v193:=Tryz.zeroValue260
 t194:=Tryz.underlying261
 a194:=Tryz.isAgg261
 z194:=Tryz.sizeOf261
 v194:=Tryz.zeroValue261
 t196:=Tryz.underlying263
 a196:=Tryz.isAgg263
 z196:=Tryz.sizeOf263
 v196:=Tryz.zeroValue263
 t198:=Tryz.underlying266
 a198:=Tryz.isAgg266
 z198:=Tryz.sizeOf266
 v198:=Tryz.zeroValue266
 t201:=Tryz.underlying269
 a201:=Tryz.isAgg269
 z201:=Tryz.sizeOf269
 v201:=Tryz.zeroValue269
 t226:=Tryz.underlying273
 a226:=Tryz.isAgg273
 z226:=Tryz.sizeOf273
 v226:=Tryz.zeroValue273
 t227:=Tryz.underlying274
 a227:=Tryz.isAgg274
 z227:=Tryz.sizeOf274
 v227:=Tryz.zeroValue274
 g0:=by kernel_rfl
 g6:=by kernel_rfl }
def Tryz.lays171_ren:Go.Shelf.Ren:=⟨fun | 171=>102 | 243=>119 | 246=>137 | 283=>150 | 284=>151 | 285=>152 | 286=>153 | 129=>170 | 317=>169 | 318=>171 | 319=>172 | 320=>173 | 337=>179 | 338=>180 | n=>n,fun | 3=>3 | 9=>9 | 2=>2 | 4=>4 | 171=>220 | 0=>0 | 53=>36 | 37=>70 | 5=>5 | 173=>223 | 212=>237 | 51=>238 | 20=>20 | 213=>239 | 46=>65 | 232=>271 | 233=>272 | n=>n,fun | 17=>3 | 18=>9 | 19=>10 | n=>n⟩
theorem Tryz.lays171:Go.Proofs.Lays.n171 Tryz.prog Tryz.lays171_ren:={
 mixed:=by kernel_rfl
 f129:=Tryz.func170.trans (congrArg some (by kernel_rfl))
 f171:=Tryz.func102.trans (congrArg some (by kernel_rfl))
 f243:=Tryz.func119.trans (congrArg some (by kernel_rfl))
 f246:=Tryz.func137.trans (congrArg some (by kernel_rfl))
 f283:=Tryz.func150.trans (congrArg some (by kernel_rfl))
 f284:=Tryz.func151.trans (congrArg some (by kernel_rfl))
 f285:=Tryz.func152.trans (congrArg some (by kernel_rfl))
 f286:=Tryz.func153.trans (congrArg some (by kernel_rfl))
 f317:=Tryz.func169.trans (congrArg some (by kernel_rfl))
 f318:=Tryz.func171.trans (congrArg some (by kernel_rfl))
 f319:=Tryz.func172.trans (congrArg some (by kernel_rfl))
 f320:=Tryz.func173.trans (congrArg some (by kernel_rfl))
 f337:=Tryz.func179.trans (congrArg some (by kernel_rfl))
 f338:=Tryz.func180.trans (congrArg some (by kernel_rfl))
 t0:=Tryz.underlying0
 a0:=Tryz.isAgg0
 z0:=Tryz.sizeOf0
 v0:=Tryz.zeroValue0
 t2:=Tryz.underlying2
 a2:=Tryz.isAgg2
 z2:=Tryz.sizeOf2
 v2:=Tryz.zeroValue2
 t3:=Tryz.underlying3
 a3:=Tryz.isAgg3
 z3:=Tryz.sizeOf3
 v3:=Tryz.zeroValue3
 t4:=Tryz.underlying4
 a4:=Tryz.isAgg4
 z4:=Tryz.sizeOf4
 v4:=Tryz.zeroValue4
 t5:=Tryz.underlying5
 a5:=Tryz.isAgg5
 z5:=Tryz.sizeOf5
 v5:=Tryz.zeroValue5
 t9:=Tryz.underlying9
 a9:=Tryz.isAgg9
 z9:=Tryz.sizeOf9
 v9:=Tryz.zeroValue9
 t20:=Tryz.underlying20
 a20:=Tryz.isAgg20
 z20:=Tryz.sizeOf20
 v20:=Tryz.zeroValue20
 t37:=Tryz.underlying70
 a37:=Tryz.isAgg70
 z37:=Tryz.sizeOf70
 v37:=Tryz.zeroValue70
 t46:=Tryz.underlying65
 a46:=Tryz.isAgg65
 z46:=Tryz.sizeOf65
 v46:=Tryz.zeroValue65
 t51:=Tryz.underlying238
 a51:=Tryz.isAgg238
 z51:=Tryz.sizeOf238
 v51:=Tryz.zeroValue238
 t53:=Tryz.underlying36
 a53:=Tryz.isAgg36
 z53:=Tryz.sizeOf36
 v53:=Tryz.zeroValue36
 t171:=Tryz.underlying220
 a171:=Tryz.isAgg220
 z171:=Tryz.sizeOf220
 v171:=Tryz.zeroValue220
 t173:=Tryz.underlying223
 a173:=Tryz.isAgg223
 z173:=Tryz.sizeOf223
 v173:=Tryz.zeroValue223
 t212:=Tryz.underlying237
 a212:=Tryz.isAgg237
 z212:=Tryz.sizeOf237
 v212:=Tryz.zeroValue237
 t213:=Tryz.underlying239
 a213:=Tryz.isAgg239
 z213:=Tryz.sizeOf239
 t232:=Tryz.underlying271
 a232:=Tryz.isAgg271
 z232:=Tryz.sizeOf271
 v232:=Tryz.zeroValue271
 t233:=Tryz.underlying272
 a233:=Tryz.isAgg272
 z233:=Tryz.sizeOf272
 v233:=Tryz.zeroValue272
 g17:=by kernel_rfl
 g18:=by kernel_rfl
 g19:=by kernel_rfl }
def Tryz.laysPu17_ren:Go.Shelf.Ren:=⟨fun | 17=>147 | 21=>163 | 22=>164 | 23=>165 | 24=>166 | 25=>176 | 27=>102 | 26=>177 | 28=>119 | 29=>137 | 30=>150 | 31=>151 | 32=>152 | 33=>153 | 35=>170 | 34=>169 | 36=>171 | 37=>172 | 38=>173 | 39=>179 | 40=>180 | n=>n,fun | 9=>9 | 3=>3 | 24=>208 | 34=>228 | 4=>4 | 39=>230 | 44=>248 | 37=>70 | 0=>0 | 47=>256 | 50=>259 | 48=>257 | 2=>2 | 52=>220 | 22=>36 | 5=>5 | 55=>223 | 59=>237 | 60=>238 | 20=>20 | 61=>239 | 36=>65 | 65=>271 | 66=>272 | 67=>61 | n=>n,fun | 0=>6 | 1=>7 | 2=>3 | 3=>9 | 4=>10 | n=>n⟩
theorem Tryz.laysPu17:Go.Proofs.LaysPu.n17 Tryz.prog Tryz.laysPu17_ren:={
 mixed:=by kernel_rfl
 f17:=Tryz.func147.trans (congrArg some (by kernel_rfl))
 f21:=Tryz.func163.trans (congrArg some (by kernel_rfl))
 f22:=Tryz.func164.trans (congrArg some (by kernel_rfl))
 f23:=Tryz.func165.trans (congrArg some (by kernel_rfl))
 f24:=Tryz.func166.trans (congrArg some (by kernel_rfl))
 f25:=Tryz.func176.trans (congrArg some (by kernel_rfl))
 f26:=Tryz.func177.trans (congrArg some (by kernel_rfl))
 f27:=Tryz.func102.trans (congrArg some (by kernel_rfl))
 f28:=Tryz.func119.trans (congrArg some (by kernel_rfl))
 f29:=Tryz.func137.trans (congrArg some (by kernel_rfl))
 f30:=Tryz.func150.trans (congrArg some (by kernel_rfl))
 f31:=Tryz.func151.trans (congrArg some (by kernel_rfl))
 f32:=Tryz.func152.trans (congrArg some (by kernel_rfl))
 f33:=Tryz.func153.trans (congrArg some (by kernel_rfl))
 f34:=Tryz.func169.trans (congrArg some (by kernel_rfl))
 f35:=Tryz.func170.trans (congrArg some (by kernel_rfl))
 f36:=Tryz.func171.trans (congrArg some (by kernel_rfl))
 f37:=Tryz.func172.trans (congrArg some (by kernel_rfl))
 f38:=Tryz.func173.trans (congrArg some (by kernel_rfl))
 f39:=Tryz.func179.trans (congrArg some (by kernel_rfl))
 f40:=Tryz.func180.trans (congrArg some (by kernel_rfl))
 t0:=Tryz.underlying0
 a0:=Tryz.isAgg0
 z0:=Tryz.sizeOf0
 v0:=Tryz.zeroValue0
 i0:=by kernel_rfl
 t2:=Tryz.underlying2
 a2:=Tryz.isAgg2
 z2:=Tryz.sizeOf2
 v2:=Tryz.zeroValue2
 i2:=by kernel_rfl
 t3:=Tryz.underlying3
 a3:=Tryz.isAgg3
 z3:=Tryz.sizeOf3
 v3:=Tryz.zeroValue3
 i3:=by kernel_rfl
 t4:=Tryz.underlying4
 a4:=Tryz.isAgg4
 z4:=Tryz.sizeOf4
 v4:=Tryz.zeroValue4
 i4:=by kernel_rfl
 t5:=Tryz.underlying5
 a5:=Tryz.isAgg5
 z5:=Tryz.sizeOf5
 v5:=Tryz.zeroValue5
 i5:=by kernel_rfl
 t9:=Tryz.underlying9
 a9:=Tryz.isAgg9
 z9:=Tryz.sizeOf9
 v9:=Tryz.zeroValue9
 i9:=by kernel_rfl
 t20:=Tryz.underlying20
 a20:=Tryz.isAgg20
 z20:=Tryz.sizeOf20
 v20:=Tryz.zeroValue20
 i20:=by kernel_rfl
 t22:=Tryz.underlying36
 a22:=Tryz.isAgg36
 z22:=Tryz.sizeOf36
 v22:=Tryz.zeroValue36
 i22:=by kernel_rfl
 t24:=Tryz.underlying208
 a24:=Tryz.isAgg208
 z24:=Tryz.sizeOf208
 v24:=Tryz.zeroValue208
 i24:=by kernel_rfl
 t34:=Tryz.underlying228
 a34:=Tryz.isAgg228
 z34:=Tryz.sizeOf228
 v34:=Tryz.zeroValue228
 i34:=by kernel_rfl
 c34:=by kernel_rfl
 t36:=Tryz.underlying65
 a36:=Tryz.isAgg65
 z36:=Tryz.sizeOf65
 v36:=Tryz.zeroValue65
 i36:=by kernel_rfl
 t37:=Tryz.underlying70
 a37:=Tryz.isAgg70
 z37:=Tryz.sizeOf70
 v37:=Tryz.zeroValue70
 i37:=by kernel_rfl
 t39:=Tryz.underlying230
 a39:=Tryz.isAgg230
 z39:=Tryz.sizeOf230
 v39:=Tryz.zeroValue230
 i39:=by kernel_rfl
 t44:=Tryz.underlying248
 a44:=Tryz.isAgg248
 z44:=Tryz.sizeOf248
 v44:=Tryz.zeroValue248
 i44:=by kernel_rfl
 t47:=Tryz.underlying256
 a47:=Tryz.isAgg256
 z47:=Tryz.sizeOf256
 v47:=Tryz.zeroValue256
 i47:=by kernel_rfl
 t48:=Tryz.underlying257
 a48:=Tryz.isAgg257
 z48:=Tryz.sizeOf257
 v48:=Tryz.zeroValue257
 i48:=by kernel_rfl
 t50:=Tryz.underlying259
 a50:=Tryz.isAgg259
 z50:=Tryz.sizeOf259
 v50:=Tryz.zeroValue259
 i50:=by kernel_rfl
 t52:=Tryz.underlying220
 a52:=Tryz.isAgg220
 z52:=Tryz.sizeOf220
 v52:=Tryz.zeroValue220
 i52:=by kernel_rfl
 t55:=Tryz.underlying223
 a55:=Tryz.isAgg223
 z55:=Tryz.sizeOf223
 v55:=Tryz.zeroValue223
 i55:=by kernel_rfl
 t59:=Tryz.underlying237
 a59:=Tryz.isAgg237
 z59:=Tryz.sizeOf237
 v59:=Tryz.zeroValue237
 i59:=by kernel_rfl
 t60:=Tryz.underlying238
 a60:=Tryz.isAgg238
 z60:=Tryz.sizeOf238
 v60:=Tryz.zeroValue238
 i60:=by kernel_rfl
 t61:=Tryz.underlying239
 a61:=Tryz.isAgg239
 z61:=Tryz.sizeOf239
 t65:=Tryz.underlying271
 a65:=Tryz.isAgg271
 z65:=Tryz.sizeOf271
 v65:=Tryz.zeroValue271
 i65:=by kernel_rfl
 t66:=Tryz.underlying272
 a66:=Tryz.isAgg272
 z66:=Tryz.sizeOf272
 v66:=Tryz.zeroValue272
 i66:=by kernel_rfl
 t67:=Tryz.underlying61
 a67:=Tryz.isAgg61
 z67:=Tryz.sizeOf61
 v67:=Tryz.zeroValue61
 i67:=by kernel_rfl
 g0:=by kernel_rfl
 m0:=by kernel_rfl
 g1:=by kernel_rfl
 m1:=by kernel_rfl
 g2:=by kernel_rfl
 m2:=by kernel_rfl
 g3:=by kernel_rfl
 m3:=by kernel_rfl
 g4:=by kernel_rfl
 m4:=by kernel_rfl }
open Go.RowKit Go.Lib in
theorem Tryz.strings_IndexByte (s:ByteArray) (c:Int) (w:World):
  Calls Tryz.prog 110 #[.string s,.int .u8 c] w fun e w'=>e=.returned (.int .i64 (Lib.indexByte s.data.toList c.toNat.toUInt8))∧w'=w:=Any.strings_IndexByte Tryz.lays137 s c w
open Go.RowKit Go.Lib in
theorem Tryz.stringslite_IndexByte (s:ByteArray) (c:Int) (w:World):
  Calls Tryz.prog 132 #[.string s,.int .u8 c] w fun e w'=>e=.returned (.int .i64 (Lib.indexByte s.data.toList c.toNat.toUInt8))∧w'=w:=Any.stringslite_IndexByte Tryz.lays217 s c w
open Go.RowKit Go.Lib in
theorem Tryz.strings_Index_one (s:ByteArray) (c:UInt8) (w:World):
  Calls Tryz.prog 129 #[.string s,.string ⟨#[c]⟩] w fun e w'=>e=.returned (.int .i64 (Lib.indexByte s.data.toList c))∧w'=w:=Any.strings_Index_one Tryz.lays143 s c w
open Go.RowKit Go.Lib in
theorem Tryz.strings_Count_one (s:ByteArray) (c:UInt8) (w:World):
  Calls Tryz.prog 128 #[.string s,.string ⟨#[c]⟩] w fun e w'=>e=.returned (.int .i64 (Lib.countByte s.data.toList c))∧w'=w:=Any.strings_Count_one Tryz.lays138 s c w
open Go.RowKit Go.Lib in
theorem Tryz.toError_syntax (fn s:ByteArray) (base bits:Int) (ev:Value) (w:World) (hlim:s.size≤281474976710656) (hv:w.cell? ⟨6,0,none⟩=some ev) (hev:ev=.nilIface∨∃ te pe,ev=.iface te pe):
  Calls Tryz.prog 147 #[.string fn,.string s,.int .i64 base,.int .i64 bits,.iface 228 (.int .i64 2)] w fun e w'=>∃ N,e=.returned (.iface 230 (.pointer (some ⟨N,0,none⟩)))∧w.heap.size≤N∧w'.heap[N]?=some (.cells #[.string fn,.string s,ev] 248 (0,0))∧Below w.heap.size w w':=AnyPu.strconv_toError_syntax Tryz.laysPu17 fn s base bits ev w hlim hv hev
open Go.RowKit Go.Lib in
theorem Tryz.toError_range (fn s:ByteArray) (base bits:Int) (ev:Value) (w:World) (hlim:s.size≤281474976710656) (hv:w.cell? ⟨7,0,none⟩=some ev) (hev:ev=.nilIface∨∃ te pe,ev=.iface te pe):
  Calls Tryz.prog 147 #[.string fn,.string s,.int .i64 base,.int .i64 bits,.iface 228 (.int .i64 1)] w fun e w'=>∃ N,e=.returned (.iface 230 (.pointer (some ⟨N,0,none⟩)))∧w.heap.size≤N∧w'.heap[N]?=some (.cells #[.string fn,.string s,ev] 248 (0,0))∧Below w.heap.size w w':=AnyPu.strconv_toError_range Tryz.laysPu17 fn s base bits ev w hlim hv hev
open Go.RowKit Go.Lib in
theorem Tryz.strings_Fields (s:ByteArray) (w:World) (hs:s.size<4294967281) (hascii:∀ (j:Nat) b,s.data.toList[j]?=some b→b.toNat<128) (htab:Lib.TabIs Tryz.prog w "strings.asciiSpace" .u8 Lib.asciiSpaceTab):
  Calls Tryz.prog 149 #[.string s] w fun e w'=>
   e=.returned (.slice (some ⟨w.heap.size,0,none⟩) (Lib.fields s.data.toList).length (Lib.fields s.data.toList).length)∧w'=w.alloc (.cells ((Lib.fields s.data.toList).map fun l=>Value.string ⟨l.toArray⟩).toArray 9):=Any.strings_Fields Tryz.lays157 (by kernel_rfl) (by kernel_rfl) s w hs hascii htab
open Go.RowKit Go.Lib in
theorem Tryz.strconv_Itoa_small (i:Nat) (hi:i<100) (w:World):
  Calls Tryz.prog 102 #[.int .i64 i] w fun e w'=>e=.returned (.string ⟨(Lib.decDigits i).toArray⟩)∧w'=w:=Any.strconv_Itoa_small Tryz.lays171 i hi w
end Go.Proofs
namespace Go.E
open Go
def PT.vals {α:Type}:PT α→(Nat→Nat)→List (Nat×α)
 | .nil,_=>[]
 | .node l v r,f=>(match v with | some x=>[(f 0,x)] | none=>[])++(l.vals (fun k=>f (2*k+1))++r.vals (fun k=>f (2*k+2)))
theorem PT.all_vals {α:Type} {p:Nat→α→Prop}:∀ (t:PT α) (f:Nat→Nat),(∀ x∈t.vals f,p x.1 x.2)→t.All p f
 | .nil,_,_=>trivial
 | .node l v r,f,h=>⟨fun x hx=>by
   subst hx
   exact h (f 0,x) (by simp [PT.vals]),PT.all_vals l _ fun x hx=>h x (by simp [PT.vals,hx]),PT.all_vals r _ fun x hx=>h x (by simp [PT.vals,hx])⟩
theorem PT.all_map {α β:Type} {p:Nat→α→Prop} {g h:Nat×α→β} {t:PT α} (hp:∀ x:Nat×α,g x=h x→p x.1 x.2) (e:(t.vals fun k=>k).map g=(t.vals fun k=>k).map h):t.All p fun k=>k:=
 PT.all_vals t _ fun x hx=>hp x (List.map_inj_left.1 e x hx)
noncomputable def zL {α:Type} (x:α):PT α:=.node .nil (some x) .nil
noncomputable def zN {α:Type} (l:PT α) (x:α) (r:PT α):PT α:=.node l (some x) r
end Go.E
namespace Go.Proofs.YtifploedaacedaaGreatDoorE
open Go Go.E Go.Proofs
set_option maxRecDepth 100000
open Tryz in
noncomputable def tyT:PT TypeInfo:=zN (zN (zN (zN (zN (zN (zN (zN (zL t255) t127 .nil) t63 (zL t191)) t31 (zN (zN (zL t287) t159 .nil) t95 (zL t223))) t15 (zN (zN (zN (zL t271) t143 .nil) t79 (zL t207)) t47 (zN (zL t175)
 t111 (zL t239)))) t7 (zN (zN (zN (zN (zL t263) t135 .nil) t71 (zL t199)) t39 (zN (zL t167) t103 (zL t231))) t23 (zN (zN (zN (zL t279) t151 .nil) t87 (zL t215)) t55 (zN (zL t183) t119 (zL t247))))) t3 (zN (zN (zN (zN (zN (zL t259) t131
 .nil) t67 (zL t195)) t35 (zN (zL t163) t99 (zL t227))) t19 (zN (zN (zN (zL t275) t147 .nil) t83 (zL t211)) t51 (zN (zL t179) t115 (zL t243)))) t11 (zN (zN (zN (zN (zL t267) t139 .nil) t75 (zL t203)) t43 (zN (zL t171) t107 (zL t235))) t27
 (zN (zN (zN (zL t283) t155 .nil) t91 (zL t219)) t59 (zN (zL t187) t123 (zL t251)))))) t1 (zN (zN (zN (zN (zN (zN (zL t257) t129 .nil) t65 (zL t193)) t33 (zN (zL t161) t97 (zL t225))) t17 (zN (zN (zN (zL t273) t145 .nil) t81 (zL t209)) t49
 (zN (zL t177) t113 (zL t241)))) t9 (zN (zN (zN (zN (zL t265) t137 .nil) t73 (zL t201)) t41 (zN (zL t169) t105 (zL t233))) t25 (zN (zN (zN (zL t281) t153 .nil) t89 (zL t217)) t57 (zN (zL t185) t121 (zL t249))))) t5 (zN (zN (zN (zN (zN (zL
 t261) t133 .nil) t69 (zL t197)) t37 (zN (zL t165) t101 (zL t229))) t21 (zN (zN (zN (zL t277) t149 .nil) t85 (zL t213)) t53 (zN (zL t181) t117 (zL t245)))) t13 (zN (zN (zN (zN (zL t269) t141 .nil) t77 (zL t205)) t45 (zN (zL t173) t109 (zL
 t237))) t29 (zN (zN (zN (zL t285) t157 .nil) t93 (zL t221)) t61 (zN (zL t189) t125 (zL t253))))))) t0 (zN (zN (zN (zN (zN (zN (zN (zL t256) t128 .nil) t64 (zL t192)) t32 (zN (zL t160) t96 (zL t224))) t16 (zN (zN (zN (zL t272) t144 .nil)
 t80 (zL t208)) t48 (zN (zL t176) t112 (zL t240)))) t8 (zN (zN (zN (zN (zL t264) t136 .nil) t72 (zL t200)) t40 (zN (zL t168) t104 (zL t232))) t24 (zN (zN (zN (zL t280) t152 .nil) t88 (zL t216)) t56 (zN (zL t184) t120 (zL t248))))) t4 (zN
 (zN (zN (zN (zN (zL t260) t132 .nil) t68 (zL t196)) t36 (zN (zL t164) t100 (zL t228))) t20 (zN (zN (zN (zL t276) t148 .nil) t84 (zL t212)) t52 (zN (zL t180) t116 (zL t244)))) t12 (zN (zN (zN (zN (zL t268) t140 .nil) t76 (zL t204)) t44 (zN
 (zL t172) t108 (zL t236))) t28 (zN (zN (zN (zL t284) t156 .nil) t92 (zL t220)) t60 (zN (zL t188) t124 (zL t252)))))) t2 (zN (zN (zN (zN (zN (zN (zL t258) t130 .nil) t66 (zL t194)) t34 (zN (zL t162) t98 (zL t226))) t18 (zN (zN (zN (zL t274)
 t146 .nil) t82 (zL t210)) t50 (zN (zL t178) t114 (zL t242)))) t10 (zN (zN (zN (zN (zL t266) t138 .nil) t74 (zL t202)) t42 (zN (zL t170) t106 (zL t234))) t26 (zN (zN (zN (zL t282) t154 .nil) t90 (zL t218)) t58 (zN (zL t186) t122 (zL
 t250))))) t6 (zN (zN (zN (zN (zN (zL t262) t134 .nil) t70 (zL t198)) t38 (zN (zL t166) t102 (zL t230))) t22 (zN (zN (zN (zL t278) t150 .nil) t86 (zL t214)) t54 (zN (zL t182) t118 (zL t246)))) t14 (zN (zN (zN (zN (zL t270) t142 .nil) t78
 (zL t206)) t46 (zN (zL t174) t110 (zL t238))) t30 (zN (zN (zN (zL t286) t158 .nil) t94 (zL t222)) t62 (zN (zL t190) t126 (zL t254)))))))
open Tryz in
noncomputable def unT:PT TypeDesc:=zN (zN (zN (zN (zN (zN (zN (zN (zL t255.desc) t126.desc .nil) t63.desc (zL t191.desc)) t31.desc (zN (zN (zL t287.desc) t159.desc .nil) t94.desc (zL t223.desc))) t15.desc (zN (zN (zN (zL
 t271.desc) t143.desc .nil) t79.desc (zL t207.desc)) t46.desc (zN (zL t175.desc) t111.desc (zL t239.desc)))) t7.desc (zN (zN (zN (zN (zL t262.desc) t134.desc .nil) t71.desc (zL t198.desc)) t38.desc (zN (zL t167.desc) t103.desc (zL
 t231.desc))) t23.desc (zN (zN (zN (zL t278.desc) t151.desc .nil) t87.desc (zL t215.desc)) t55.desc (zN (zL t183.desc) t119.desc (zL t247.desc))))) t3.desc (zN (zN (zN (zN (zN (zL t258.desc) t131.desc .nil) t67.desc (zL t195.desc)) t34.desc
 (zN (zL t163.desc) t99.desc (zL t227.desc))) t18.desc (zN (zN (zN (zL t275.desc) t146.desc .nil) t83.desc (zL t211.desc)) t51.desc (zN (zL t179.desc) t115.desc (zL t243.desc)))) t9.desc (zN (zN (zN (zN (zL t267.desc) t138.desc .nil)
 t75.desc (zL t203.desc)) t43.desc (zN (zL t171.desc) t106.desc (zL t235.desc))) t27.desc (zN (zN (zN (zL t21.desc) t155.desc .nil) t91.desc (zL t219.desc)) t59.desc (zN (zL t187.desc) t123.desc (zL t251.desc)))))) t1.desc (zN (zN (zN (zN
 (zN (zN (zL t257.desc) t129.desc .nil) t65.desc (zL t193.desc)) t33.desc (zN (zL t161.desc) t27.desc (zL t225.desc))) t17.desc (zN (zN (zN (zL t273.desc) t145.desc .nil) t81.desc (zL t209.desc)) t49.desc (zN (zL t177.desc) t113.desc (zL
 t241.desc)))) t9.desc (zN (zN (zN (zN (zL t265.desc) t137.desc .nil) t73.desc (zL t201.desc)) t41.desc (zN (zL t169.desc) t105.desc (zL t233.desc))) t25.desc (zN (zN (zN (zL t5.desc) t153.desc .nil) t89.desc (zL t217.desc)) t57.desc (zN
 (zL t185.desc) t120.desc (zL t249.desc))))) t5.desc (zN (zN (zN (zN (zN (zL t261.desc) t133.desc .nil) t69.desc (zL t197.desc)) t37.desc (zN (zL t165.desc) t101.desc (zL t229.desc))) t21.desc (zN (zN (zN (zL t277.desc) t149.desc .nil)
 t85.desc (zL t213.desc)) t53.desc (zN (zL t181.desc) t117.desc (zL t245.desc)))) t13.desc (zN (zN (zN (zN (zL t268.desc) t141.desc .nil) t76.desc (zL t205.desc)) t45.desc (zN (zL t173.desc) t108.desc (zL t237.desc))) t29.desc (zN (zN (zN
 (zL t285.desc) t157.desc .nil) t93.desc (zL t221.desc)) t61.desc (zN (zL t189.desc) t125.desc (zL t253.desc))))))) t0.desc (zN (zN (zN (zN (zN (zN (zN (zL t256.desc) t128.desc .nil) t64.desc (zL t192.desc)) t32.desc (zN (zL t160.desc)
 t96.desc (zL t224.desc))) t16.desc (zN (zN (zN (zL t272.desc) t144.desc .nil) t79.desc (zL t207.desc)) t48.desc (zN (zL t176.desc) t112.desc (zL t240.desc)))) t7.desc (zN (zN (zN (zN (zL t264.desc) t136.desc .nil) t72.desc (zL t200.desc))
 t40.desc (zN (zL t168.desc) t104.desc (zL t232.desc))) t24.desc (zN (zN (zN (zL t5.desc) t152.desc .nil) t88.desc (zL t216.desc)) t56.desc (zN (zL t184.desc) t120.desc (zL t247.desc))))) t4.desc (zN (zN (zN (zN (zN (zL t260.desc) t132.desc
 .nil) t68.desc (zL t196.desc)) t36.desc (zN (zL t164.desc) t100.desc (zL t3.desc))) t20.desc (zN (zN (zN (zL t275.desc) t148.desc .nil) t84.desc (zL t212.desc)) t52.desc (zN (zL t180.desc) t116.desc (zL t244.desc)))) t12.desc (zN (zN (zN
 (zN (zL t268.desc) t140.desc .nil) t76.desc (zL t204.desc)) t44.desc (zN (zL t172.desc) t108.desc (zL t236.desc))) t3.desc (zN (zN (zN (zL t21.desc) t106.desc .nil) t91.desc (zL t220.desc)) t60.desc (zN (zL t188.desc) t124.desc (zL
 t251.desc)))))) t2.desc (zN (zN (zN (zN (zN (zN (zL t258.desc) t130.desc .nil) t66.desc (zL t194.desc)) t34.desc (zN (zL t162.desc) t98.desc (zL t226.desc))) t18.desc (zN (zN (zN (zL t274.desc) t146.desc .nil) t82.desc (zL t210.desc))
 t50.desc (zN (zL t178.desc) t114.desc (zL t241.desc)))) t9.desc (zN (zN (zN (zN (zL t265.desc) t138.desc .nil) t74.desc (zL t202.desc)) t42.desc (zN (zL t170.desc) t106.desc (zL t234.desc))) t25.desc (zN (zN (zN (zL t282.desc) t153.desc
 .nil) t90.desc (zL t218.desc)) t58.desc (zN (zL t186.desc) t122.desc (zL t250.desc))))) t5.desc (zN (zN (zN (zN (zN (zL t262.desc) t134.desc .nil) t70.desc (zL t198.desc)) t38.desc (zN (zL t166.desc) t101.desc (zL t230.desc))) t22.desc (zN
 (zN (zN (zL t278.desc) t120.desc .nil) t86.desc (zL t214.desc)) t54.desc (zN (zL t182.desc) t118.desc (zL t246.desc)))) t13.desc (zN (zN (zN (zN (zL t270.desc) t142.desc .nil) t78.desc (zL t206.desc)) t46.desc (zN (zL t174.desc) t110.desc
 (zL t238.desc))) t30.desc (zN (zN (zN (zL t285.desc) t157.desc .nil) t94.desc (zL t222.desc)) t62.desc (zN (zL t190.desc) t126.desc (zL t254.desc)))))))
open Tryz in
noncomputable def fnT:PT (FuncId×Func):=(.node (.node (zN (zN (zN (zN (zN (zL (127,f127)) (63,f63) .nil) (31,f31) (zN (zL (159,f159)) (95,f95) .nil)) (15,f15) (zN (zL (79,f79)) (47,f47) (zN (zL (175,f175)) (111,
 f111) .nil))) (7,f7) (zN (zN (zN (zL (135,f135)) (71,f71) .nil) (39,f39) (zN (zL (167,f167)) (103,f103) .nil)) (23,f23) (zN (zN (zL (151,f151)) (87,f87) .nil) (55,f55) (zL (119,f119))))) (3,f3) (zN (zN (zN (zN (zL (131,f131))
 (67,f67) .nil) (35,f35) (zN (zL (163,f163)) (99,f99) .nil)) (19,f19) (zN (zN (zL (147,f147)) (83,f83) .nil) (51,f51) (zN (zL (179,f179)) (115,f115) .nil))) (11,f11) (zN (zN (zN (zL (139,f139)) (75,f75) .nil) (43,f43) (zN (zL
 (171,f171)) (107,f107) .nil)) (27,f27) (zN (zN (zL (155,f155)) (91,f91) .nil) (59,f59) (zL (123,f123)))))) none (zN (zN (zN (zN (zN (zL (129,f129)) (65,f65) .nil) (33,f33) (zN (zL (161,f161)) (97,f97) .nil)) (17,f17) (zN (zN
 (zL (145,f145)) (81,f81) .nil) (49,f49) (zN (zL (177,f177)) (113,f113) .nil))) (9,f9) (zN (zN (zN (zL (137,f137)) (73,f73) .nil) (41,f41) (zN (zL (169,f169)) (105,f105) .nil)) (25,f25) (zN (zN (zL (153,f153)) (89,f89) .nil)
 (57,f57) (zL (121,f121))))) (5,f5) (zN (zN (zN (zN (zL (133,f133)) (69,f69) .nil) (37,f37) (zN (zL (165,f165)) (101,f101) .nil)) (21,f21) (zN (zN (zL (149,f149)) (85,f85) .nil) (53,f53) (zN (zL (181,f181)) (117,f117) .nil)))
 (13,f13) (zN (zN (zN (zL (141,f141)) (77,f77) .nil) (45,f45) (zN (zL (173,f173)) (109,f109) .nil)) (29,f29) (zN (zL (93,f93)) (61,f61) (zL (125,f125))))))) none (zN (zN (zN (zN (zN (zN (zL (128,f128)) (64,f64) .nil) (32,f32)
 (zN (zL (160,f160)) (96,f96) .nil)) (16,f16) (zN (zN (zL (144,f144)) (80,f80) .nil) (48,f48) (zN (zL (176,f176)) (112,f112) .nil))) (8,f8) (zN (zN (zN (zL (136,f136)) (72,f72) .nil) (40,f40) (zN (zL (168,f168)) (104,f104)
 .nil)) (24,f24) (zN (zN (zL (152,f152)) (88,f88) .nil) (56,f56) (zL (120,f120))))) (4,f4) (zN (zN (zN (zN (zL (132,f132)) (68,f68) .nil) (36,f36) (zN (zL (164,f164)) (100,f100) .nil)) (20,f20) (zN (zL (84,f84)) (52,f52) (zN
 (zL (180,f180)) (116,f116) .nil))) (12,f12) (zN (zN (zN (zL (140,f140)) (76,f76) .nil) (44,f44) (zN (zL (172,f172)) (108,f108) .nil)) (28,f28) (zN (zN (zL (156,f156)) (92,f92) .nil) (60,f60) (zL (124,f124)))))) (2,f2) (zN (zN
 (zN (zN (zN (zL (130,f130)) (66,f66) .nil) (34,f34) (zN (zL (162,f162)) (98,f98) .nil)) (18,f18) (zN (zN (zL (146,f146)) (82,f82) .nil) (50,f50) (zN (zL (178,f178)) (114,f114) .nil))) (10,f10) (zN (zN (zN (zL (138,f138)) (74,
 f74) .nil) (42,f42) (zN (zL (170,f170)) (106,f106) .nil)) (26,f26) (zN (zN (zL (154,f154)) (90,f90) (zL (218,f218))) (58,f58) (zL (122,f122))))) (6,f6) (zN (zN (zN (zN (zL (134,f134)) (70,f70) .nil) (38,f38) (zN (zL (166,
 f166)) (102,f102) .nil)) (22,f22) (zN (zN (zL (150,f150)) (86,f86) .nil) (54,f54) (zN (zL (182,f182)) (118,f118) .nil))) (14,f14) (zN (zN (zN (zL (142,f142)) (78,f78) .nil) (46,f46) (zN (zL (174,f174)) (110,f110) .nil)) (30,
 f30) (zN (zN (zL (158,f158)) (94,f94) .nil) (62,f62) (zL (126,f126))))))))
theorem tyT_ok:tyT.All (InfP Tryz.prog) (fun k=>k):=PT.all_map (g:=fun x=>Tryz.prog.info? x.1) (h:=fun x=>some x.2) (fun _ e=>e) (by kernel_rfl)
theorem unT_ok:unT.All (UndP Tryz.prog) (fun k=>k):=PT.all_map (g:=fun x=>Tryz.prog.underlying x.1) (h:=fun x=>some x.2) (fun _ e=>e) (by kernel_rfl)
theorem fnT_ok:fnT.All (FnP Tryz.prog) (fun k=>k):=PT.all_map (g:=fun x=>(fun args w=>(callFunc x.1 args).run Tryz.prog w,Tryz.prog.funcs[x.2.1]?)) (h:=fun x=>(fun args w=>.ok (.enter x.2.1 args) w,some x.2.2)) (fun _ e=>⟨fun args w=>congrFun (congrFun (congrArg Prod.fst e) args) w,congrArg Prod.snd e⟩) (by kernel_rfl)
def zb1:List (List UInt8×Nat):=[([97,108,117],5),([97],6),([98],6),([100],6),([108,105,116],8),([115,105,122,101],2),([99,99],2),([109,101,109],4),([115,101,113],3),([99,111,110,100],5),([116,111],11),([109,105,115,99],6)]
def fieldsC:List Value:=zb1.flatMap fun x=>[.string ⟨⟨x.1⟩⟩,.int .i64 x.2]
def asciiC:List Value:=Lib.asciiSpaceTab.map fun z=>.int .u8 z
def ztf (f:Nat):Bool:=Nat.beq f 110||Nat.beq f 132
def ztg (f:Nat) (vs:List Value):Option Value:=
 cond (ztf f) (match vs with
  | [.string s,.int .u8 c]=>some (.int .i64 (Lib.indexByte s.data.toList c.toNat.toUInt8))
  | _=>none)
 (cond (Nat.beq f 128) (match vs with
  | [.string s,.string t]=>(match t.data.toList with
    | [c]=>some (.int .i64 (Lib.countByte s.data.toList c))
    | _=>none)
  | _=>none)
 (cond (Nat.beq f 129) (match vs with
  | [.string s,.string t]=>(match t.data.toList with
    | [c]=>some (.int .i64 (Lib.indexByte s.data.toList c))
    | _=>none)
  | _=>none) none))
def extF (f:Nat) (vs:List Value):Option Value:=
 cond (Nat.beq f 102) (match vs with
  | [.int .i64 n]=>cond (decide (0≤n)&&decide (n<100)) (some (.string ⟨(Lib.decDigits n.toNat).toArray⟩)) none
  | _=>none) (ztg f vs)
def zfo (nx g:Nat):Con:=⟨nx,nx+1,[(g,.table [.chan (some g)])],[],.iface 230 (.pointer (some ⟨nx,0,none⟩))⟩
def zns (f:Nat) (vs:List Value) (nx:Nat):Option Con:=
 cond (Nat.beq f 147) (match vs with
  | [.string _,.string s,.int .i64 _,.int .i64 _,.iface t (.int .i64 k)]=>cond (Nat.ble s.size 281474976710656&&Nat.beq t 228) (cond (decide (k=2)) (some (zfo nx 6)) (cond (decide (k=1)) (some (zfo nx 7)) none)) none
  | _=>none) none
def pureL:List Nat:=[107,109,69,91,81,82,112,113,133,47,46,75,22,18,77,34,56,98,115,100,118,101,73,20,135,134,116,96,114,97,99,72,15,25,35,12,86,61,88,64,87,104,103,123,124,122,138,60,38,40]
def barL:List Nat:=[39,59]
noncomputable def Lk0:Lk where
 info t:=tyT.get t
 und t:=unT.get t
 func f:=fnT.get f
 glob g:=Nat.beq g 6||Nat.beq g 7||Nat.beq g 0||Nat.beq g 2
 ext:=extF
 con:=zns
 pureF f:=pureL.any (Nat.beq f)
 barF f:=barL.any (Nat.beq f)
theorem zpK {t:ByteArray} {c:UInt8} (h:t.data.toList=[c]):t=⟨#[c]⟩:=by
 cases t with
 | mk d=>cases d with
   | mk l=>simp only at h;rw [h]
theorem zvZ {f:Nat} {vs:List Value} {v:Value} (h:ztg f vs=some v):(∀ x∈vs,flat3 x=true)∧flat3 v=true∧∀ w,
  ∃ j,(∀ bs w,(callFunc f bs).run Tryz.prog w=.ok (.enter j bs) w)∧Calls Tryz.prog j vs.toArray w fun e w'=>e=.returned v∧RowKit.Below w.heap.size w w':=by
 have still:∀ (w w':World),w'=w→RowKit.Below w.heap.size w w':=fun w w' e=>by subst e;exact ⟨rfl,rfl,rfl,zlr _,fun _ _=>rfl⟩
 unfold ztg at h
 cases hi:ztf f with
 | true=>
   rw [hi] at h
   simp only [zct] at h
   split at h
   ·rename_i s c
    cases h
    refine ⟨fun x hx=>by simp at hx;rcases hx with rfl | rfl<;>rfl,rfl,fun w=>?_⟩
    unfold ztf at hi
    simp only [Bool.or_eq_true,zat,decide_eq_true_eq] at hi
    rcases hi with rfl | rfl
    ·exact ⟨110,Tryz.call110,(Tryz.strings_IndexByte s c w).mono fun e w' ⟨h1,h2⟩=>⟨h1,still w w' h2⟩⟩
    ·exact ⟨132,Tryz.call132,(Tryz.stringslite_IndexByte s c w).mono fun e w' ⟨h1,h2⟩=>⟨h1,still w w' h2⟩⟩
   ·cases h
 | false=>
   rw [hi] at h
   simp only [zcf] at h
   cases h59:Nat.beq f 128 with
   | true=>
     rw [h59] at h
     have:=beq_true h59
     subst this
     simp only [zct] at h
     split at h
     ·rename_i s t
      split at h
      ·rename_i c hc
       cases h
       have:=zpK hc
       subst this
       exact ⟨fun x hx=>by simp at hx;rcases hx with rfl | rfl<;>rfl,rfl,fun w=>⟨128,Tryz.call128,(Tryz.strings_Count_one s c w).mono fun e w' ⟨h1,h2⟩=>⟨h1,still w w' h2⟩⟩⟩
      ·cases h
     ·cases h
   | false=>
     rw [h59] at h
     simp only [zcf] at h
     cases h60:Nat.beq f 129 with
     | true=>
       rw [h60] at h
       have:=beq_true h60
       subst this
       simp only [zct] at h
       split at h
       ·rename_i s t
        split at h
        ·rename_i c hc
         cases h
         have:=zpK hc
         subst this
         exact ⟨fun x hx=>by simp at hx;rcases hx with rfl | rfl<;>rfl,rfl,fun w=>⟨129,Tryz.call129,(Tryz.strings_Index_one s c w).mono fun e w' ⟨h1,h2⟩=>⟨h1,still w w' h2⟩⟩⟩
        ·cases h
       ·cases h
     | false=>rw [h60] at h;cases h
theorem zxc {f:Nat} {vs:List Value} {v:Value} (h:extF f vs=some v):(∀ x∈vs,flat3 x=true)∧flat3 v=true∧∀ w,
  ∃ j,(∀ bs w,(callFunc f bs).run Tryz.prog w=.ok (.enter j bs) w)∧Calls Tryz.prog j vs.toArray w fun e w'=>e=.returned v∧RowKit.Below w.heap.size w w':=by
 have still:∀ (w w':World),w'=w→RowKit.Below w.heap.size w w':=fun w w' e=>by subst e;exact ⟨rfl,rfl,rfl,zlr _,fun _ _=>rfl⟩
 unfold extF at h
 cases hi:Nat.beq f 102 with
 | false=>rw [hi] at h;exact zvZ h
 | true=>
   rw [hi] at h
   simp only [zct] at h
   have hf:f=102:=by rw [zat] at hi;exact of_decide_eq_true hi
   subst hf
   split at h
   ·rename_i n
    cases hc:(decide (0≤n)&&decide (n<100)) with
    | false=>rw [hc] at h;cases h
    | true=>
      rw [hc] at h
      simp only [zct] at h
      cases h
      simp only [zae,decide_eq_true_eq] at hc
      refine ⟨fun x hx=>by simp at hx;subst hx;rfl,rfl,fun w=>⟨102,Tryz.call102,?_⟩⟩
      have hn:(n.toNat:Int)=n:=Int.toNat_of_nonneg hc.1
      have:=Tryz.strconv_Itoa_small n.toNat (by omega) w
      rw [hn] at this
      exact this.mono fun e w' ⟨h1,h2⟩=>⟨h1,still w w' h2⟩
   ·cases h
theorem zai [Sym]:Lk0.Ok Tryz.prog where
 symOp _ _ _ _ _ h:=by cases h
 symLen _ _ h:=by cases h
 info t i h:=PT.all_get tyT _ tyT_ok t i h
 und t d h:=PT.all_get unT _ unT_ok t d h
 func f j fn h:=PT.all_get fnT _ fnT_ok f (j,fn) h
 mixed:=by kernel_rfl
 ext f vs v h:=by
  obtain ⟨h1,h2,h3⟩:=zxc h
  exact ⟨h1,h2,fun w=>.inl (h3 w)⟩
theorem zal:LkS Lk0:=⟨fun _ _ _ _=>rfl⟩
structure ErrSym [Sym]:Prop where
 e4:∃ t u,Sym.v 6=.iface t u
 e5:∃ t u,Sym.v 7=.iface t u
theorem zsq [Sym] {g nx:Nat} {fn s:ByteArray} {base bits k:Int} (hs:s.size≤281474976710656) (he:∃ t u,Sym.v g=.iface t u)
  (hc:∀ (ev:Value) (w:World),w.cell? ⟨g,0,none⟩=some ev→(ev=.nilIface∨∃ te pe,ev=.iface te pe)→
   Calls Tryz.prog 147 #[.string fn,.string s,.int .i64 base,.int .i64 bits,.iface 228 (.int .i64 k)] w fun e w'=>∃ N,e=.returned (.iface 230 (.pointer (some ⟨N,0,none⟩)))∧w.heap.size≤N∧w'.heap[N]?=some (.cells #[.string fn,.string s,ev] 248 (0,0))∧RowKit.Below w.heap.size w w'):
  ConFact Tryz.prog 147 [.string fn,.string s,.int .i64 base,.int .i64 bits,.iface 228 (.int .i64 k)] (zfo nx g):=by
 refine ⟨fun x hx=>by simp at hx;rcases hx with rfl | rfl | rfl | rfl | rfl<;>rfl,147,Tryz.call147,fun w pl hob=>?_⟩
 obtain ⟨hb,hoo,obj,hobj,_,arr,T,fr,rfl,hcells⟩:=hob (g,.table [.chan (some g)]) (by simp [zfo])
 obtain ⟨v',hv',hvr⟩:=hcells 0 (.chan (some g)) rfl
 have hv2:v'=Sym.v g:=by cases hvr;rfl
 subst hv2
 have hcell:w.cell? ⟨g,0,none⟩=some (Sym.v g):=by
  unfold World.cell?
  simp only [hobj]
  rw [hoo] at hv'
  simpa using hv'
 refine (hc (Sym.v g) w hcell (.inr he)).mono fun e w' ⟨N,h1,h2,h3,h4⟩=>?_
 refine ⟨_,fun i=>if i=nx then some ⟨N,0,3,0⟩ else none,h1,?_⟩
 have hN:N<w'.heap.size:=(Array.getElem?_eq_some_iff.1 h3).1
 refine ⟨.iface (.ptr (p:=⟨N,0,3,0⟩) (by simp)),h4,fun i p hp=>?_,fun i p hp=>?_,fun i p ob hp ho=>by simp [zfo] at ho,fun i j p q hp hq hi=>by simp [zfo] at hi⟩
 ·split at hp
  ·rename_i e;cases hp;subst e
   exact .inr ⟨zlr _,Nat.lt_succ_self _,h2⟩
  ·cases hp
 ·split at hp
  ·cases hp;exact hN
  ·cases hp
theorem zxd [Sym] (hE:ErrSym):zn1 Tryz.prog Lk0:=by
 intro f vs nx c h
 have h0:zns f vs nx=some c:=h
 clear h
 unfold zns at h0
 obtain ⟨hf,h1⟩:=zaG h0
 clear h0
 have:=beq_true hf
 subst this
 split at h1
 ·rename_i fn s base bits t k
  obtain ⟨hq,h2⟩:=zaG h1
  clear h1
  simp only [zae,Nat.ble_eq] at hq
  have:=beq_true hq.2
  subst this
  cases k2:decide (k=2) with
  | true=>
    rw [k2] at h2;cases h2
    have:=of_decide_eq_true k2
    subst this
    exact zsq hq.1 hE.e4 fun ev w hv hev=>Tryz.toError_syntax _ _ _ _ ev w hq.1 hv hev
  | false=>
    rw [k2] at h2
    cases k1:decide (k=1) with
    | true=>
      rw [k1] at h2;cases h2
      have:=of_decide_eq_true k1
      subst this
      exact zsq hq.1 hE.e5 fun ev w hv hev=>Tryz.toError_range _ _ _ _ ev w hq.1 hv hev
    | false=>rw [k1] at h2;cases h2
 ·cases h1
noncomputable abbrev cc:zak:=cS Tryz.prog Lk0
end Go.Proofs.YtifploedaacedaaGreatDoorE
namespace Go.Proofs.YtifploedaacedaaGreatDoorE
set_option maxRecDepth 20000
open Go Go.E Go.Proofs
noncomputable def zmX (cf:zak) (lf:zac) (c':Int) (st:SS):Option (Value×SS):=
 cond (decide (97≤c')) (
 cond (decide (c'≤122)) (
 some (.bool true,st)) (
 cond (decide (65≤c')) (
 cond (decide (c'≤90)) (
 some (.bool true,st)) (
 some (.bool (decide (c'=95)),st))) (
 some (.bool (decide (c'=95)),st)))) (
 cond (decide (65≤c')) (
 cond (decide (c'≤90)) (
 some (.bool true,st)) (
 some (.bool (decide (c'=95)),st))) (
 some (.bool (decide (c'=95)),st)))
noncomputable abbrev zo7:zac:=lS Tryz.prog Lk0 Tryz.f106 zaz
theorem zo8:Lk0.func 106=some (106,Tryz.f106):=by kernel_rfl
theorem zo9 [Sym] (c':Int) (st:SS) {r:Value×SS} (h:zmX cc zo7 c' st=some r):cc 106 [.int .u8 c'] st=some r:=
 zaf (li:=zaz) zai zal zo8 rfl (fun _=>rfl) (.trans (by kernel_rfl) h)
noncomputable def zor (cf:zak) (lf:zac) (c':Int) (st:SS):Option (Value×SS):=
 cond (decide (48≤c')) (
 some (.bool (decide (c'≤57)),st)) (
 some (.bool false,st))
noncomputable abbrev zqd:zac:=lS Tryz.prog Lk0 Tryz.f108 zaz
theorem zqe:Lk0.func 108=some (108,Tryz.f108):=by kernel_rfl
theorem zqf [Sym] (c':Int) (st:SS) {r:Value×SS} (h:zor cc zqd c' st=some r):cc 108 [.int .u8 c'] st=some r:=
 zaf (li:=zaz) zai zal zqe rfl (fun _=>rfl) (.trans (by kernel_rfl) h)
def zlT:LoopI:=⟨[(0,.str),(6,.any)],[(.exit 0,[(0,.str)]),(.ret,[(2,.int .i64)])]⟩
def zmY (n:Nat):Option LoopI:=cond (Nat.beq n 2) (some zlT) (none)
noncomputable def znu (cf:zak) (lf:zac) (s':ByteArray) (st:SS):Option (Value×SS):=
 let a:SS:=(st.ro st.next).new (.iter s' 0)
 (lf 2 [.string s',ptr ((st.ro st.next).next) 0] a).bind fun b=>
 cond (Nat.beq b.1 0) (
 ((b.2.1[0]?).bind asS).bind fun c=>
 some (.int .i64 (c.size:Int),st.adv b.2.2.next)) (
 ((b.2.1[0]?).bind (asI .i64)).bind fun d=>
 some (.int .i64 d,st.adv b.2.2.next))
noncomputable abbrev zg2:zac:=lS Tryz.prog Lk0 Tryz.f107 zmY
theorem zrO:Lk0.func 107=some (107,Tryz.f107):=by kernel_rfl
theorem zrP [Sym] (s':ByteArray) (st:SS) {r:Value×SS} (h:znu cc zg2 s' st=some r):cc 107 [.string s'] st=some r:=
 zaf (li:=zmY) zai zal zrO rfl (fun _=>rfl) (.trans (by kernel_rfl) h)
noncomputable def zeo (cf:zak) (lf:zac) (s':ByteArray) (t6':Value) (st:SS):Option (Nat×List Value×SS):=
 (addr? t6').bind fun a=>
 cond (Nat.beq a.2 0) (
 (st.iterG a.1).bind fun q2=>
 cond (Nat.ble st.lim a.1) (
 cond (decide (q2.2<q2.1.size)) (
 let b:SS:=st.set a.1 (some (.iter q2.1 (q2.2+(Utf8.decode q2.1 q2.2).2)))
 cond (decide (128≤((Utf8.decode q2.1 q2.2).1:Int))) (
 some (1,[.int .i64 (q2.2:Int)],b)) (
 let c:Int:=IntKind.wrap .u8 ((Utf8.decode q2.1 q2.2).1:Int)
 (cf 106 [.int .u8 c] b).bind fun d=>
 ((some d.1).bind asB).bind fun e=>
 cond (!e) (
 let f:Int:=IntKind.wrap .u8 ((Utf8.decode q2.1 q2.2).1:Int)
 (cf 108 [.int .u8 f] d.2).bind fun g=>
 ((some g.1).bind asB).bind fun h=>
 cond (!h) (
 some (1,[.int .i64 (q2.2:Int)],g.2)) (
 lf 2 [.string s',t6'] g.2)) (
 lf 2 [.string s',t6'] d.2))) (
 some (0,[.string s'],st))) none) none
theorem ze2 [Sym] (s':ByteArray) (t6':Value) (st:SS) {r:Nat×List Value×SS} (h:zeo cc zg2 s' t6' st=some r):zg2 2 [.string s',t6'] st=some r:=
 zaw zai zal (key:=2) (I:=zlT) rfl (by kernel_rfl) (by kernel_rfl) rfl rfl (.trans (by kernel_rfl) h)
end Go.Proofs.YtifploedaacedaaGreatDoorE
namespace Go.Proofs.YtifploedaacedaaGreatDoorE
open Go Go.E Go.Proofs
def zep (c:Int):Bool:=(decide (97≤c)&&decide (c≤122))||(decide (65≤c)&&decide (c≤90))||decide (c=95)
def zgg (c:Int):Bool:=decide (48≤c)&&decide (c≤57)
theorem zi0 [Sym] (c:Int) (st:SS):cc 106 [.int .u8 c] st=some (.bool (zep c),st):=by
 refine zo9 c st ?_
 unfold zmX zep
 cases decide (97≤c)<;>cases decide (c≤122)<;>cases decide (65≤c)<;>cases decide (c≤90)<;>simp
theorem digit_ok [Sym] (c:Int) (st:SS):cc 108 [.int .u8 c] st=some (.bool (zgg c),st):=by
 refine zqf c st ?_
 unfold zor zgg
 cases decide (48≤c)<;>cases decide (c≤57)<;>simp
def nameB (b:UInt8):Bool:=zep b.toNat||zgg b.toNat
theorem zv0 {b:UInt8} (h:nameB b=true):b.toNat<128:=by
 unfold nameB zep zgg at h
 simp only [Bool.or_eq_true,zae,decide_eq_true_eq] at h
 omega
def zaU (l:List UInt8):Nat:=(l.takeWhile nameB).length
theorem get!_of {s:ByteArray} {i:Nat} {b:UInt8} (h:(bl s)[i]?=some b):s.get! i=b:=by
 unfold bl at h
 rw [Array.getElem?_toList] at h
 show s.data[i]! =b
 rw [getElem!_def,h]
theorem zq0 {s:ByteArray} {i:Nat} {b:UInt8} (h:(bl s)[i]?=some b) (hb:b.toNat<128):Utf8.decode s i=(b.toNat,1):=by
 unfold Utf8.decode
 simp only [Nat.add_zero,get!_of h,if_pos hb]
theorem zth {s:ByteArray} {i:Nat} {b:UInt8} (h:(bl s)[i]?=some b) (hb:128≤b.toNat):128≤(Utf8.decode s i).1:=by
 unfold Utf8.decode
 simp only [Nat.add_zero,get!_of h,if_neg (Nat.not_lt.2 hb)]
 repeat' split
 all_goals simp_all [Utf8.runeError]
 all_goals omega
theorem drop_cons {α:Type} {l:List α} {i:Nat} {b:α} (h:l[i]?=some b):l.drop i=b::l.drop (i+1):=by
 obtain ⟨h1,h2⟩:=List.getElem?_eq_some_iff.1 h
 rw [List.drop_eq_getElem_cons h1,h2]
theorem zi1 {b:UInt8} {l:List UInt8}:zaU (b::l)=if nameB b then 1+zaU l else 0:=by
 unfold zaU
 simp only [List.takeWhile_cons]
 split<;>simp;omega
theorem zmZ (s:ByteArray):(bl s).drop s.size=[]:=by
 rw [List.drop_eq_nil_iff];simp
theorem zv1 [Sym] (s:ByteArray) (i:Nat):∀ (k p:Nat) (st:SS),k+p=s.size→st.mem.get i=some (.iter s p)→st.lim≤i→
  ∃ idx vs st',zg2 2 [.string s,ptr i 0] st=some (idx,vs,st')∧st'.next=st.next∧
   ((idx=0∧vs=[.string s]∧p+zaU ((bl s).drop p)=s.size)∨(idx=1∧vs=[.int .i64 ((p+zaU ((bl s).drop p):Nat):Int)])):=by
 intro k
 induction k with
 | zero=>
   intro p st hk hm hl
   have hp:p=s.size:=by omega
   subst hp
   refine ⟨0,[.string s],st,ze2 s _ st ?_,rfl,.inl ⟨rfl,rfl,by rw [zmZ];rfl⟩⟩
   simp [zeo,addr?,ptr,SS.iterG_get hm,hl]
 | succ k ih=>
   intro p st hk hm hl
   have hlt:p<s.size:=by omega
   have hb:∃ b,(bl s)[p]?=some b:=⟨_,zge (by rw [zaV];exact hlt)⟩
   obtain ⟨b,hb⟩:=hb
   have hd:=drop_cons hb
   by_cases hbig:128≤b.toNat
   ·have hdec:=zth hb hbig
    have hn:nameB b=false:=by
     cases h:nameB b with
     | false=>rfl
     | true=>have:=zv0 h;omega
    refine ⟨1,[.int .i64 (p:Int)],st.set i (some (.iter s (p+(Utf8.decode s p).2))),ze2 s _ st ?_,rfl,.inr ⟨rfl,by rw [hd,zi1,hn];simp⟩⟩
    have h128:(128:Int)≤((Utf8.decode s p).1:Int):=by omega
    simp [zeo,addr?,ptr,SS.iterG_get hm,hl,hlt,h128]
   ·have hdec:=zq0 hb (by omega)
    have h128:¬ (128:Int)≤(b.toNat:Int):=by omega
    have hw:IntKind.wrap .u8 (b.toNat:Int)=b.toNat:=zjP (by omega) (u8_lt b)
    cases hn:nameB b with
    | false=>
      unfold nameB at hn
      simp only [Bool.or_eq_false_iff] at hn
      refine ⟨1,[.int .i64 (p:Int)],st.set i (some (.iter s (p+1))),ze2 s _ st ?_,rfl,.inr ⟨rfl,by rw [hd,zi1,nameB,hn.1,hn.2];simp⟩⟩
      simp [zeo,addr?,ptr,SS.iterG_get hm,hl,hlt,hdec,h128,hw,zi0,digit_ok,hn.1,hn.2]
    | true=>
      obtain ⟨idx,vs,st',h1,h2,h3⟩:=ih (p+1) (st.set i (some (.iter s (p+1)))) (by omega) (by simp) hl
      refine ⟨idx,vs,st',ze2 s _ st ?_,h2,?_⟩
      ·have hn':=hn
       unfold nameB at hn'
       cases hl1:zep b.toNat with
       | true=>simpa [zeo,addr?,ptr,SS.iterG_get hm,hl,hlt,hdec,h128,hw,zi0,hl1] using h1
       | false=>
         rw [hl1,Bool.false_or] at hn'
         simpa [zeo,addr?,ptr,SS.iterG_get hm,hl,hlt,hdec,h128,hw,zi0,digit_ok,hl1,hn'] using h1
      ·rw [hd,zi1,hn,if_pos rfl]
       rcases h3 with ⟨a,b',c⟩ | ⟨a,b'⟩
       ·exact .inl ⟨a,b',by omega⟩
       ·exact .inr ⟨a,by rw [b'];congr 2;omega⟩
theorem zhc [Sym] (s:ByteArray) (st:SS):∃ n,st.next≤n∧cc 107 [.string s] st=some (.int .i64 (zaU (bl s):Nat),st.adv n):=by
 obtain ⟨idx,vs,st',h1,h2,h3⟩:=zv1 s st.next s.size 0 ((st.ro st.next).new (.iter s 0)) (by omega) (SS.new_get (st:=st.ro st.next)) (zlr _)
 refine ⟨st'.next,by rw [h2];simp,zrP s st ?_⟩
 rcases h3 with ⟨rfl,rfl,h⟩ | ⟨rfl,rfl⟩
 ·simp only [List.drop_zero,Nat.zero_add] at h
  simp [znu,h1,h]
 ·simp [znu,h1]
def mkS (l:List UInt8):ByteArray:=⟨⟨l⟩⟩
@[simp] theorem zby (l:List UInt8):bl (mkS l)=l:=rfl
@[simp] theorem zuD (s:ByteArray):mkS (bl s)=s:=by cases s with | mk d=>cases d;rfl
@[simp] theorem zbw (l:List UInt8):(mkS l).size=l.length:=rfl
theorem zeq (s:ByteArray) (l h:Nat):s.extract l h=mkS (((bl s).take h).drop l):=by
 rw [← zkB,zuD]
theorem zfN (a b:ByteArray):eqT a b=decide (bl a=bl b):=rfl
def pieces (c:UInt8):List UInt8→List (List UInt8)
 | []=>[[]]
 | b::r=>if b=c then []::pieces c r else match pieces c r with
   | []=>[[b]]
   | x::y=>(b::x)::y
def zgO (cur:List UInt8):List (List UInt8)→List (List UInt8)
 | []=>[cur]
 | x::y=>(cur++x)::y
theorem zfV (c:UInt8) (l:List UInt8):pieces c l≠[]:=by
 cases l with
 | nil=>simp [pieces]
 | cons b r=>
   unfold pieces
   split
   ·simp
   ·split<;>simp
theorem zm0 {p:List (List UInt8)} (h:p≠[]):zgO [] p=p:=by cases p with | nil=>exact absurd rfl h | cons x y=>rfl
theorem zq1 (cur:List UInt8) (b c:UInt8) (r:List UInt8) (h:b≠c):zgO cur (pieces c (b::r))=zgO (cur++[b]) (pieces c r):=by
 show zgO cur (if b=c then []::pieces c r else match pieces c r with
  | []=>[[b]]
  | x::y=>(b::x)::y)=_
 rw [if_neg h]
 have:=zfV c r
 cases hp:pieces c r with
 | nil=>exact absurd hp this
 | cons x y=>simp [zgO]
theorem pieces_len (c:UInt8) (l:List UInt8):(pieces c l).length≤l.length+1:=by
 induction l with
 | nil=>simp [pieces]
 | cons b r ih=>
   unfold pieces
   split
   ·simp;omega
   ·split<;>rename_i h<;>rw [h] at ih<;>simp at ih ⊢<;>omega
def strs (l:List (List UInt8)):List Value:=l.map fun x=>.string (mkS x)
@[simp] theorem zxX (l:List (List UInt8)):(strs l).length=l.length:=by simp [strs]
theorem zm1 (a b:List (List UInt8)):strs (a++b)=strs a++strs b:=by simp [strs]
theorem Rd.new1 {st:SS} {row:List Value} {z:Nat} (h:row.length=z):Rd (st.new (.cells row z)) (.slice (some ⟨st.next,0,none⟩) 1 1) row z 1:=
 ⟨by rw [h,Nat.one_mul],.inr ⟨st.next,1,rfl,⟨z,SS.new_get⟩,by simp⟩⟩
end Go.Proofs.YtifploedaacedaaGreatDoorE
namespace Go.Proofs.YtifploedaacedaaGreatDoorE
set_option maxRecDepth 20000
open Go Go.E Go.Proofs
noncomputable def strings_Split (cf:zak) (lf:zac) (s':ByteArray) (sep':ByteArray) (st:SS):Option (Value×SS):=
 (cf 105 [.string s',.string sep',.int .i64 0,.int .i64 (-1)] st).bind fun a=>
 some (a.1,a.2)
noncomputable abbrev znv:zac:=lS Tryz.prog Lk0 Tryz.f89 zaz
theorem znw:Lk0.func 89=some (89,Tryz.f89):=by kernel_rfl
theorem znx [Sym] (s':ByteArray) (sep':ByteArray) (st:SS) {r:Value×SS} (h:strings_Split cc znv s' sep' st=some r):cc 89 [.string s',.string sep'] st=some r:=
 zaf (li:=zaz) zai zal znw rfl (fun _=>rfl) (.trans (by kernel_rfl) h)
def zfW:LoopI:=⟨[(0,.str),(1,.str),(2,.int .i64),(3,.int .i64),(9,.any),(10,.int .i64)],[(.exit 0,[(0,.str),(9,.any),(10,.int .i64)])]⟩
def zgB (n:Nat):Option LoopI:=cond (Nat.beq n 11) (some zfW) (none)
noncomputable def strings_genSplit (cf:zak) (lf:zac) (s':ByteArray) (sep':ByteArray) (sepSave':Int) (n':Int) (st:SS):Option (Value×SS):=
 cond (decide (n'=0)) (
 some (.slice none 0 0,st)) (
 cond (eqT sep' ⟨#[]⟩) (
 (cf 127 [.string s',.int .i64 n'] st).bind fun a=>
 some (a.1,a.2)) (
 cond (decide (n'<0)) (
 (cf 128 [.string s',.string sep'] st).bind fun b=>
 ((some b.1).bind (asI .i64)).bind fun c=>
 let d:Int:=IntKind.wrap .i64 (c+1)
 let e:Int:=IntKind.wrap .i64 ((s'.size:Int)+1)
 let f:Int:=if e<d then e else d
 (zfI f f 16).bind fun _=>
 let g:SS:=b.2.new (.cells (zfn [.string ⟨#[]⟩] f) 1)
 let h:Int:=IntKind.wrap .i64 (f-1)
 (lf 11 [.string s',.string sep',.int .i64 sepSave',.int .i64 h,.slice (some ⟨b.2.next,0,none⟩) ((f:Int).toNat) ((f:Int).toNat),.int .i64 0] g).bind fun i=>
 ((i.2.1[0]?).bind asS).bind fun j=>
 (i.2.1[1]?).bind fun k=>
 ((i.2.1[2]?).bind (asI .i64)).bind fun l=>
 (zam k l 1).bind fun m=>
 (i.2.2.st m.1 m.2 [.string j]).bind fun n=>
 let o:Int:=IntKind.wrap .i64 (l+1)
 (n.resl k 1 0 o).bind fun p=>
 some (p,n)) (
 let q:Int:=IntKind.wrap .i64 ((s'.size:Int)+1)
 let r:Int:=if q<n' then q else n'
 (zfI r r 16).bind fun _=>
 let s:SS:=st.new (.cells (zfn [.string ⟨#[]⟩] r) 1)
 let t:Int:=IntKind.wrap .i64 (r-1)
 (lf 11 [.string s',.string sep',.int .i64 sepSave',.int .i64 t,.slice (some ⟨st.next,0,none⟩) ((r:Int).toNat) ((r:Int).toNat),.int .i64 0] s).bind fun u=>
 ((u.2.1[0]?).bind asS).bind fun v=>
 (u.2.1[1]?).bind fun w=>
 ((u.2.1[2]?).bind (asI .i64)).bind fun x=>
 (zam w x 1).bind fun y=>
 (u.2.2.st y.1 y.2 [.string v]).bind fun z=>
 let A:Int:=IntKind.wrap .i64 (x+1)
 (z.resl w 1 0 A).bind fun B=>
 some (B,z))))
noncomputable abbrev zck:zac:=lS Tryz.prog Lk0 Tryz.f105 zgB
theorem zlo:Lk0.func 105=some (105,Tryz.f105):=by kernel_rfl
theorem zlp [Sym] (s':ByteArray) (sep':ByteArray) (sepSave':Int) (n':Int) (st:SS) {r:Value×SS} (h:strings_genSplit cc zck s' sep' sepSave' n' st=some r):cc 105 [.string s',.string sep',.int .i64 sepSave',.int .i64 n'] st=some r:=
 zaf (li:=zgB) zai zal zlo rfl (fun _=>rfl) (.trans (by kernel_rfl) h)
noncomputable def zd5 (cf:zak) (lf:zac) (s':ByteArray) (sep':ByteArray) (sepSave':Int) (n':Int) (a':Value) (i':Int) (st:SS):Option (Nat×List Value×SS):=
 cond (decide (i'<n')) (
 (cf 129 [.string s',.string sep'] st).bind fun a=>
 ((some a.1).bind (asI .i64)).bind fun b=>
 cond (decide (b<0)) (
 some (0,[.string s',a',.int .i64 i'],a.2)) (
 let c:Int:=IntKind.wrap .i64 (b+sepSave')
 (zcA s' 0 c).bind fun d=>
 (zam a' i' 1).bind fun e=>
 (a.2.st e.1 e.2 [.string d]).bind fun f=>
 let g:Int:=IntKind.wrap .i64 (b+(sep'.size:Int))
 (zcA s' g (s'.size:Int)).bind fun h=>
 let i:Int:=IntKind.wrap .i64 (i'+1)
 lf 11 [.string h,.string sep',.int .i64 sepSave',.int .i64 n',a',.int .i64 i] f)) (
 some (0,[.string s',a',.int .i64 i'],st))
theorem ze8 [Sym] (s':ByteArray) (sep':ByteArray) (sepSave':Int) (n':Int) (a':Value) (i':Int) (st:SS) {r:Nat×List Value×SS} (h:zd5 cc zck s' sep' sepSave' n' a' i' st=some r):zck 11 [.string s',.string sep',.int .i64 sepSave',.int .i64 n',a',.int .i64 i'] st=some r:=
 zaw zai zal (key:=11) (I:=zfW) rfl (by kernel_rfl) (by kernel_rfl) rfl rfl (.trans (by kernel_rfl) h)
noncomputable def zfp (cf:zak) (lf:zac) (s':ByteArray) (prefix0':ByteArray) (st:SS):Option (Value×SS):=
 (cf 160 [.string s',.string prefix0'] st).bind fun a=>
 ((some a.1).bind asB).bind fun b=>
 cond (!b) (
 some (.tuple #[.string s',.bool false],a.2)) (
 (zcA s' (prefix0'.size:Int) (s'.size:Int)).bind fun c=>
 some (.tuple #[.string c,.bool true],a.2))
noncomputable abbrev zhG:zac:=lS Tryz.prog Lk0 Tryz.f145 zaz
theorem zhH:Lk0.func 145=some (145,Tryz.f145):=by kernel_rfl
theorem zhI [Sym] (s':ByteArray) (prefix0':ByteArray) (st:SS) {r:Value×SS} (h:zfp cc zhG s' prefix0' st=some r):cc 145 [.string s',.string prefix0'] st=some r:=
 zaf (li:=zaz) zai zal zhH rfl (fun _=>rfl) (.trans (by kernel_rfl) h)
noncomputable def zfq (cf:zak) (lf:zac) (s':ByteArray) (prefix0':ByteArray) (st:SS):Option (Value×SS):=
 cond (decide ((prefix0'.size:Int)≤(s'.size:Int))) (
 (zcA s' 0 (prefix0'.size:Int)).bind fun s1=>
 some (.bool (eqT s1 prefix0'),st)) (
 some (.bool false,st))
noncomputable abbrev zhJ:zac:=lS Tryz.prog Lk0 Tryz.f160 zaz
theorem zhK:Lk0.func 160=some (160,Tryz.f160):=by kernel_rfl
theorem zhL [Sym] (s':ByteArray) (prefix0':ByteArray) (st:SS) {r:Value×SS} (h:zfq cc zhJ s' prefix0' st=some r):cc 160 [.string s',.string prefix0'] st=some r:=
 zaf (li:=zaz) zai zal zhK rfl (fun _=>rfl) (.trans (by kernel_rfl) h)
noncomputable def strings_CutPrefix (cf:zak) (lf:zac) (s':ByteArray) (prefix0':ByteArray) (st:SS):Option (Value×SS):=
 (cf 145 [.string s',.string prefix0'] st).bind fun a=>
 ((zar a.1 0).bind asS).bind fun b=>
 ((zar a.1 1).bind asB).bind fun c=>
 some (.tuple #[.string b,.bool c],a.2)
noncomputable abbrev zkD:zac:=lS Tryz.prog Lk0 Tryz.f130 zaz
theorem zkE:Lk0.func 130=some (130,Tryz.f130):=by kernel_rfl
theorem zkF [Sym] (s':ByteArray) (prefix0':ByteArray) (st:SS) {r:Value×SS} (h:strings_CutPrefix cc zkD s' prefix0' st=some r):cc 130 [.string s',.string prefix0'] st=some r:=
 zaf (li:=zaz) zai zal zkE rfl (fun _=>rfl) (.trans (by kernel_rfl) h)
noncomputable def zfi (cf:zak) (lf:zac) (s':ByteArray) (base':Int) (bitSize':Int) (st:SS):Option (Value×SS):=
 (cf 146 [.string s',.int .i64 base',.int .i64 bitSize'] st).bind fun a=>
 ((zar a.1 0).bind (asI .u64)).bind fun b=>
 (zar a.1 1).bind fun c=>
 (((zgd c).bind fun r=>some (.bool !r)).bind asB).bind fun d=>
 cond d (
 (cf 147 [.string ⟨#[80,97,114,115,101,85,105,110,116]⟩,.string s',.int .i64 base',.int .i64 bitSize',c] a.2).bind fun e=>
 some (.tuple #[.int .u64 b,e.1],e.2)) (
 some (.tuple #[.int .u64 b,.nilIface],a.2))
noncomputable abbrev zkG:zac:=lS Tryz.prog Lk0 Tryz.f131 zaz
theorem zkH:Lk0.func 131=some (131,Tryz.f131):=by kernel_rfl
theorem zgh [Sym] (s':ByteArray) (base':Int) (bitSize':Int) (st:SS) {r:Value×SS} (h:zfi cc zkG s' base' bitSize' st=some r):cc 131 [.string s',.int .i64 base',.int .i64 bitSize'] st=some r:=
 zaf (li:=zaz) zai zal zkH rfl (fun _=>rfl) (.trans (by kernel_rfl) h)
noncomputable def zjQ (cf:zak) (lf:zac) (c':Int) (st:SS):Option (Value×SS):=
 let n1:Int:=orI .u8 c' 32
 some (.int .u8 n1,st)
noncomputable abbrev zmA:zac:=lS Tryz.prog Lk0 Tryz.f161 zaz
theorem zmB:Lk0.func 161=some (161,Tryz.f161):=by kernel_rfl
theorem zmC [Sym] (c':Int) (st:SS) {r:Value×SS} (h:zjQ cc zmA c' st=some r):cc 161 [.int .u8 c'] st=some r:=
 zaf (li:=zaz) zai zal zmB rfl (fun _=>rfl) (.trans (by kernel_rfl) h)
def zpL:LoopI:=⟨[(1,.int .i64),(8,.bool),(9,.str),(10,.int .u64),(11,.int .u64),(12,.bool),(13,.int .u64),(99,.any),(100,.int .i64),(101,.int .i64)],[(.exit 3,[(9,.str),(12,.bool),(13,.int .u64)]),(.ret,[(6,.int .u64),(7,.any)])]⟩
def zsr (n:Nat):Option LoopI:=cond (Nat.beq n 36) (some zpL) (none)
noncomputable def pu10 (cf:zak) (lf:zac) (s':ByteArray) (st:SS):Option (Value×SS):=
 cond (eqT s' ⟨#[]⟩) (
 some (.tuple #[.int .u64 0,.iface 228 (.int .i64 2)],st)) (
 let a:Int:=zlF .u64 1 31
 let c:Int:=IntKind.wrap .u64 (a-1)
 let d:SS:=st.new (.cells (s'.data.toList.map fun b=>.int .u8 b.toNat) 1)
 (lf 36 [.int .i64 10,.bool false,.string s',.int .u64 1844674407370955162,.int .u64 c,.bool false,.int .u64 0,.slice (some ⟨st.next,0,none⟩) s'.size s'.size,.int .i64 ((s'.size:Nat):Int),.int .i64 0] d).bind fun e=>
 cond (Nat.beq e.1 0) (
 ((e.2.1[0]?).bind asS).bind fun f=>
 ((e.2.1[1]?).bind asB).bind fun g=>
 ((e.2.1[2]?).bind (asI .u64)).bind fun h=>
 cond g (
 (cf 162 [.string f] e.2.2).bind fun i=>
 ((some i.1).bind asB).bind fun j=>
 cond (!j) (
 some (.tuple #[.int .u64 0,.iface 228 (.int .i64 2)],i.2)) (
 some (.tuple #[.int .u64 h,.nilIface],i.2))) (
 some (.tuple #[.int .u64 h,.nilIface],e.2.2))) (
 ((e.2.1[0]?).bind (asI .u64)).bind fun k=>
 (e.2.1[1]?).bind fun l=>
 some (.tuple #[.int .u64 k,l],e.2.2)))
noncomputable abbrev zh0:zac:=lS Tryz.prog Lk0 Tryz.f146 zsr
theorem zxe:Lk0.func 146=some (146,Tryz.f146):=by kernel_rfl
theorem zss [Sym] (s':ByteArray) (st:SS) {r:Value×SS} (h:pu10 cc zh0 s' st=some r):cc 146 [.string s',.int .i64 10,.int .i64 31] st=some r:=
 zaf (li:=zsr) zai zal zxe rfl (fun _=>rfl) (.trans (by kernel_rfl) h)
noncomputable def zd6 (cf:zak) (lf:zac) (base':Int) (s0':ByteArray) (cutoff':Int) (maxVal':Int) (underscores':Bool) (n':Int) (t99':Value) (t100':Int) (t101':Int) (st:SS):Option (Nat×List Value×SS):=
 cond (decide (t101'<t100')) (
 (zam t99' t101' 1).bind fun a=>
 ((st.ld a.1 a.2).bind (asI .u8)).bind fun b=>
 cond (decide (b=95)) (
 cond (decide (48≤b)) (
 cond (decide (b≤57)) (
 let c:Int:=IntKind.wrap .u8 (b-48)
 let d:Int:=IntKind.wrap .u8 base'
 cond (decide (d≤c)) (
 some (1,[.int .u64 0,.iface 228 (.int .i64 2)],st)) (
 cond (decide (cutoff'≤n')) (
 some (1,[.int .u64 maxVal',.iface 228 (.int .i64 1)],st)) (
 let e:Int:=IntKind.wrap .u64 base'
 let f:Int:=IntKind.wrap .u64 (n'*e)
 let g:Int:=IntKind.wrap .u64 c
 let h:Int:=IntKind.wrap .u64 (f+g)
 cond (decide (h<f)) (
 some (1,[.int .u64 maxVal',.iface 228 (.int .i64 1)],st)) (
 cond (decide (maxVal'<h)) (
 some (1,[.int .u64 maxVal',.iface 228 (.int .i64 1)],st)) (
 let i:Int:=IntKind.wrap .i64 (t101'+1)
 lf 36 [.int .i64 base',.bool false,.string s0',.int .u64 cutoff',.int .u64 maxVal',.bool underscores',.int .u64 h,t99',.int .i64 t100',.int .i64 i] st))))) (
 (cf 161 [.int .u8 b] st).bind fun j=>
 ((some j.1).bind (asI .u8)).bind fun k=>
 cond (decide (97≤k)) (
 (cf 161 [.int .u8 b] j.2).bind fun l=>
 ((some l.1).bind (asI .u8)).bind fun m=>
 cond (decide (m≤122)) (
 (cf 161 [.int .u8 b] l.2).bind fun n=>
 ((some n.1).bind (asI .u8)).bind fun o=>
 let p:Int:=IntKind.wrap .u8 (o-97)
 let q:Int:=IntKind.wrap .u8 (p+10)
 let r:Int:=IntKind.wrap .u8 base'
 cond (decide (r≤q)) (
 some (1,[.int .u64 0,.iface 228 (.int .i64 2)],n.2)) (
 cond (decide (cutoff'≤n')) (
 some (1,[.int .u64 maxVal',.iface 228 (.int .i64 1)],n.2)) (
 let s:Int:=IntKind.wrap .u64 base'
 let t:Int:=IntKind.wrap .u64 (n'*s)
 let u:Int:=IntKind.wrap .u64 q
 let v:Int:=IntKind.wrap .u64 (t+u)
 cond (decide (v<t)) (
 some (1,[.int .u64 maxVal',.iface 228 (.int .i64 1)],n.2)) (
 cond (decide (maxVal'<v)) (
 some (1,[.int .u64 maxVal',.iface 228 (.int .i64 1)],n.2)) (
 let w:Int:=IntKind.wrap .i64 (t101'+1)
 lf 36 [.int .i64 base',.bool false,.string s0',.int .u64 cutoff',.int .u64 maxVal',.bool underscores',.int .u64 v,t99',.int .i64 t100',.int .i64 w] n.2))))) (
 some (1,[.int .u64 0,.iface 228 (.int .i64 2)],l.2))) (
 some (1,[.int .u64 0,.iface 228 (.int .i64 2)],j.2)))) (
 (cf 161 [.int .u8 b] st).bind fun x=>
 ((some x.1).bind (asI .u8)).bind fun y=>
 cond (decide (97≤y)) (
 (cf 161 [.int .u8 b] x.2).bind fun z=>
 ((some z.1).bind (asI .u8)).bind fun A=>
 cond (decide (A≤122)) (
 (cf 161 [.int .u8 b] z.2).bind fun B=>
 ((some B.1).bind (asI .u8)).bind fun C=>
 let D:Int:=IntKind.wrap .u8 (C-97)
 let E:Int:=IntKind.wrap .u8 (D+10)
 let F:Int:=IntKind.wrap .u8 base'
 cond (decide (F≤E)) (
 some (1,[.int .u64 0,.iface 228 (.int .i64 2)],B.2)) (
 cond (decide (cutoff'≤n')) (
 some (1,[.int .u64 maxVal',.iface 228 (.int .i64 1)],B.2)) (
 let G:Int:=IntKind.wrap .u64 base'
 let H:Int:=IntKind.wrap .u64 (n'*G)
 let I:Int:=IntKind.wrap .u64 E
 let J:Int:=IntKind.wrap .u64 (H+I)
 cond (decide (J<H)) (
 some (1,[.int .u64 maxVal',.iface 228 (.int .i64 1)],B.2)) (
 cond (decide (maxVal'<J)) (
 some (1,[.int .u64 maxVal',.iface 228 (.int .i64 1)],B.2)) (
 let K:Int:=IntKind.wrap .i64 (t101'+1)
 lf 36 [.int .i64 base',.bool false,.string s0',.int .u64 cutoff',.int .u64 maxVal',.bool underscores',.int .u64 J,t99',.int .i64 t100',.int .i64 K] B.2))))) (
 some (1,[.int .u64 0,.iface 228 (.int .i64 2)],z.2))) (
 some (1,[.int .u64 0,.iface 228 (.int .i64 2)],x.2)))) (
 cond (decide (48≤b)) (
 cond (decide (b≤57)) (
 let L:Int:=IntKind.wrap .u8 (b-48)
 let M:Int:=IntKind.wrap .u8 base'
 cond (decide (M≤L)) (
 some (1,[.int .u64 0,.iface 228 (.int .i64 2)],st)) (
 cond (decide (cutoff'≤n')) (
 some (1,[.int .u64 maxVal',.iface 228 (.int .i64 1)],st)) (
 let N:Int:=IntKind.wrap .u64 base'
 let O:Int:=IntKind.wrap .u64 (n'*N)
 let P:Int:=IntKind.wrap .u64 L
 let Q:Int:=IntKind.wrap .u64 (O+P)
 cond (decide (Q<O)) (
 some (1,[.int .u64 maxVal',.iface 228 (.int .i64 1)],st)) (
 cond (decide (maxVal'<Q)) (
 some (1,[.int .u64 maxVal',.iface 228 (.int .i64 1)],st)) (
 let R:Int:=IntKind.wrap .i64 (t101'+1)
 lf 36 [.int .i64 base',.bool false,.string s0',.int .u64 cutoff',.int .u64 maxVal',.bool underscores',.int .u64 Q,t99',.int .i64 t100',.int .i64 R] st))))) (
 (cf 161 [.int .u8 b] st).bind fun S=>
 ((some S.1).bind (asI .u8)).bind fun T=>
 cond (decide (97≤T)) (
 (cf 161 [.int .u8 b] S.2).bind fun U=>
 ((some U.1).bind (asI .u8)).bind fun V=>
 cond (decide (V≤122)) (
 (cf 161 [.int .u8 b] U.2).bind fun W=>
 ((some W.1).bind (asI .u8)).bind fun X=>
 let Y:Int:=IntKind.wrap .u8 (X-97)
 let Z:Int:=IntKind.wrap .u8 (Y+10)
 let aA:Int:=IntKind.wrap .u8 base'
 cond (decide (aA≤Z)) (
 some (1,[.int .u64 0,.iface 228 (.int .i64 2)],W.2)) (
 cond (decide (cutoff'≤n')) (
 some (1,[.int .u64 maxVal',.iface 228 (.int .i64 1)],W.2)) (
 let aB:Int:=IntKind.wrap .u64 base'
 let aC:Int:=IntKind.wrap .u64 (n'*aB)
 let aD:Int:=IntKind.wrap .u64 Z
 let aE:Int:=IntKind.wrap .u64 (aC+aD)
 cond (decide (aE<aC)) (
 some (1,[.int .u64 maxVal',.iface 228 (.int .i64 1)],W.2)) (
 cond (decide (maxVal'<aE)) (
 some (1,[.int .u64 maxVal',.iface 228 (.int .i64 1)],W.2)) (
 let aF:Int:=IntKind.wrap .i64 (t101'+1)
 lf 36 [.int .i64 base',.bool false,.string s0',.int .u64 cutoff',.int .u64 maxVal',.bool underscores',.int .u64 aE,t99',.int .i64 t100',.int .i64 aF] W.2))))) (
 some (1,[.int .u64 0,.iface 228 (.int .i64 2)],U.2))) (
 some (1,[.int .u64 0,.iface 228 (.int .i64 2)],S.2)))) (
 (cf 161 [.int .u8 b] st).bind fun aG=>
 ((some aG.1).bind (asI .u8)).bind fun aH=>
 cond (decide (97≤aH)) (
 (cf 161 [.int .u8 b] aG.2).bind fun aI=>
 ((some aI.1).bind (asI .u8)).bind fun aJ=>
 cond (decide (aJ≤122)) (
 (cf 161 [.int .u8 b] aI.2).bind fun aK=>
 ((some aK.1).bind (asI .u8)).bind fun aL=>
 let aM:Int:=IntKind.wrap .u8 (aL-97)
 let aN:Int:=IntKind.wrap .u8 (aM+10)
 let aO:Int:=IntKind.wrap .u8 base'
 cond (decide (aO≤aN)) (
 some (1,[.int .u64 0,.iface 228 (.int .i64 2)],aK.2)) (
 cond (decide (cutoff'≤n')) (
 some (1,[.int .u64 maxVal',.iface 228 (.int .i64 1)],aK.2)) (
 let aP:Int:=IntKind.wrap .u64 base'
 let aQ:Int:=IntKind.wrap .u64 (n'*aP)
 let aR:Int:=IntKind.wrap .u64 aN
 let aS:Int:=IntKind.wrap .u64 (aQ+aR)
 cond (decide (aS<aQ)) (
 some (1,[.int .u64 maxVal',.iface 228 (.int .i64 1)],aK.2)) (
 cond (decide (maxVal'<aS)) (
 some (1,[.int .u64 maxVal',.iface 228 (.int .i64 1)],aK.2)) (
 let aT:Int:=IntKind.wrap .i64 (t101'+1)
 lf 36 [.int .i64 base',.bool false,.string s0',.int .u64 cutoff',.int .u64 maxVal',.bool underscores',.int .u64 aS,t99',.int .i64 t100',.int .i64 aT] aK.2))))) (
 some (1,[.int .u64 0,.iface 228 (.int .i64 2)],aI.2))) (
 some (1,[.int .u64 0,.iface 228 (.int .i64 2)],aG.2))))) (
 some (0,[.string s0',.bool underscores',.int .u64 n'],st))
theorem zm2 [Sym] (base':Int) (s0':ByteArray) (cutoff':Int) (maxVal':Int) (underscores':Bool) (n':Int) (t99':Value) (t100':Int) (t101':Int) (st:SS) {r:Nat×List Value×SS} (h:zd6 cc zh0 base' s0' cutoff' maxVal' underscores' n' t99' t100' t101' st=some r):zh0 36 [.int .i64 base',.bool false,.string s0',.int .u64 cutoff',.int .u64 maxVal',.bool underscores',.int .u64 n',t99',.int .i64 t100',.int .i64 t101'] st=some r:=
 zaw zai zal (key:=36) (I:=zpL) rfl (by kernel_rfl) (by kernel_rfl) rfl rfl (.trans (by kernel_rfl) h)
def zuE:LoopI:=⟨[(1,.int .i64),(8,.bool),(9,.str),(10,.int .u64),(11,.int .u64),(12,.bool),(13,.int .u64),(99,.any),(100,.int .i64),(101,.int .i64)],[(.exit 3,[(9,.str),(12,.bool),(13,.int .u64)]),(.ret,[(6,.int .u64),(7,.any)])]⟩
def zst (n:Nat):Option LoopI:=cond (Nat.beq n 36) (some zuE) (none)
noncomputable def pu16 (cf:zak) (lf:zac) (s':ByteArray) (st:SS):Option (Value×SS):=
 cond (eqT s' ⟨#[]⟩) (
 some (.tuple #[.int .u64 0,.iface 228 (.int .i64 2)],st)) (
 let a:Int:=zlF .u64 1 31
 let c:Int:=IntKind.wrap .u64 (a-1)
 let d:SS:=st.new (.cells (s'.data.toList.map fun b=>.int .u8 b.toNat) 1)
 (lf 36 [.int .i64 16,.bool false,.string s',.int .u64 1152921504606846976,.int .u64 c,.bool false,.int .u64 0,.slice (some ⟨st.next,0,none⟩) s'.size s'.size,.int .i64 ((s'.size:Nat):Int),.int .i64 0] d).bind fun e=>
 cond (Nat.beq e.1 0) (
 ((e.2.1[0]?).bind asS).bind fun f=>
 ((e.2.1[1]?).bind asB).bind fun g=>
 ((e.2.1[2]?).bind (asI .u64)).bind fun h=>
 cond g (
 (cf 162 [.string f] e.2.2).bind fun i=>
 ((some i.1).bind asB).bind fun j=>
 cond (!j) (
 some (.tuple #[.int .u64 0,.iface 228 (.int .i64 2)],i.2)) (
 some (.tuple #[.int .u64 h,.nilIface],i.2))) (
 some (.tuple #[.int .u64 h,.nilIface],e.2.2))) (
 ((e.2.1[0]?).bind (asI .u64)).bind fun k=>
 (e.2.1[1]?).bind fun l=>
 some (.tuple #[.int .u64 k,l],e.2.2)))
noncomputable abbrev zsu:zac:=lS Tryz.prog Lk0 Tryz.f146 zst
theorem zxf:Lk0.func 146=some (146,Tryz.f146):=by kernel_rfl
theorem zsv [Sym] (s':ByteArray) (st:SS) {r:Value×SS} (h:pu16 cc zsu s' st=some r):cc 146 [.string s',.int .i64 16,.int .i64 31] st=some r:=
 zaf (li:=zst) zai zal zxf rfl (fun _=>rfl) (.trans (by kernel_rfl) h)
noncomputable def zfr (cf:zak) (lf:zac) (s':ByteArray) (st:SS):Option (Value×SS):=
 (cf 130 [.string s',.string ⟨#[48,120]⟩] (st.ro st.next)).bind fun a=>
 ((zar a.1 0).bind asS).bind fun b=>
 ((zar a.1 1).bind asB).bind fun c=>
 cond c (
 (cf 131 [.string b,.int .i64 16,.int .i64 31] a.2).bind fun d=>
 ((zar d.1 0).bind (asI .u64)).bind fun e=>
 (zar d.1 1).bind fun f=>
 let g:Int:=IntKind.wrap .i64 e
 (((zgd f).bind fun r=>some (.bool r)).bind asB).bind fun h=>
 cond h (
 (cf 110 [.string b,.int .u8 95] d.2).bind fun i=>
 ((some i.1).bind (asI .i64)).bind fun j=>
 some (.tuple #[.int .i64 g,.bool (decide (j<0))],st.adv i.2.next)) (
 some (.tuple #[.int .i64 g,.bool false],st.adv d.2.next))) (
 (cf 131 [.string s',.int .i64 10,.int .i64 31] a.2).bind fun k=>
 ((zar k.1 0).bind (asI .u64)).bind fun l=>
 (zar k.1 1).bind fun m=>
 let n:Int:=IntKind.wrap .i64 l
 (((zgd m).bind fun r=>some (.bool r)).bind asB).bind fun o=>
 cond o (
 (cf 110 [.string s',.int .u8 95] k.2).bind fun p=>
 ((some p.1).bind (asI .i64)).bind fun q=>
 some (.tuple #[.int .i64 n,.bool (decide (q<0))],st.adv p.2.next)) (
 some (.tuple #[.int .i64 n,.bool false],st.adv k.2.next)))
noncomputable abbrev zpa:zac:=lS Tryz.prog Lk0 Tryz.f109 zaz
theorem zpb:Lk0.func 109=some (109,Tryz.f109):=by kernel_rfl
theorem zjR [Sym] (s':ByteArray) (st:SS) {r:Value×SS} (h:zfr cc zpa s' st=some r):cc 109 [.string s'] st=some r:=
 zaf (li:=zaz) zai zal zpb rfl (fun _=>rfl) (.trans (by kernel_rfl) h)
end Go.Proofs.YtifploedaacedaaGreatDoorE
namespace Go.Proofs.YtifploedaacedaaGreatDoorE
open Go Go.E Go.Proofs
theorem zpM (c:UInt8) (l:List UInt8):(Lib.indexByte l c= -1∧pieces c l=[l]∧l.count c=0)∨
  ∃ m:Nat,Lib.indexByte l c=m∧m<l.length∧pieces c l=l.take m::pieces c (l.drop (m+1))∧l.count c=(l.drop (m+1)).count c+1:=by
 induction l with
 | nil=>exact .inl ⟨rfl,rfl,rfl⟩
 | cons b r ih=>
   by_cases hb:b=c
   ·subst hb
    refine .inr ⟨0,?_,by simp,?_,?_⟩
    ·simp [Lib.indexByte]
    ·simp [pieces]
    ·simp
   ·rcases ih with ⟨h1,h2,h3⟩ | ⟨m,h1,h2,h3,h4⟩
    ·refine .inl ⟨?_,?_,?_⟩
     ·simp [Lib.indexByte,hb,h1]
     ·simp [pieces,hb,h2]
     ·simp [List.count_cons,hb,h3]
    ·refine .inr ⟨m+1,?_,by simp;omega,?_,?_⟩
     ·have:¬ ((m:Int)= -1):=by omega
      simp [Lib.indexByte,hb,h1,this]
     ·simp [pieces,hb,h3]
     ·simp [List.count_cons,hb,h4]
theorem zny {n:Int} {z:Nat} (h0:0≤n) (h1:n≤1099511627776) (h2:n*z≤70368744177664):zfI n n z=some ():=by
 unfold zfI
 simp [h0,h1,h2]
theorem zkI (v:Value) (n:Nat):zfn [v] (n:Int)=List.replicate n v:=by
 unfold zfn
 apply List.ext_getElem
 ·simp
 ·intro i h1 h2
  simp
  have:i%1=0:=Nat.mod_one i
  simp [this]
theorem znz (done:List (List UInt8)) (k:Nat) (x:List UInt8):(strs done++List.replicate (k+1) (Value.string ⟨#[]⟩)).take done.length++([.string (mkS x)]++(strs done++List.replicate (k+1) (Value.string ⟨#[]⟩)).drop (done.length+1))=strs (done++[x])++List.replicate k (Value.string ⟨#[]⟩):=by
 rw [zm1,List.take_append_of_le_length (by simp),List.take_of_length_le (by simp),List.drop_append]
 have h1:(strs done).drop (done.length+1)=[]:=by rw [List.drop_eq_nil_iff];simp
 rw [h1]
 simp [strs]
theorem count_le (c:UInt8) (l:List UInt8):l.count c≤l.length:=List.count_le_length
theorem zxg (c:UInt8) (s:ByteArray) (st:SS) [Sym]:cc 129 [.string s,.string ⟨#[c]⟩] st=some (.int .i64 (Lib.indexByte (bl s) c),st):=
 zlN (by rfl) st
theorem zv2 (c:UInt8) (s:ByteArray) (st:SS) [Sym]:cc 128 [.string s,.string ⟨#[c]⟩] st=some (.int .i64 ((bl s).count c:Nat),st):=
 zlN (by rfl) st
theorem zil (c:UInt8) (s:ByteArray) (st:SS) [Sym]:cc 110 [.string s,.int .u8 c.toNat] st=some (.int .i64 (Lib.indexByte (bl s) c),st):=by
 refine zlN ?_ st
 show some (Value.int .i64 (Lib.indexByte s.data.toList (c.toNat:Int).toNat.toUInt8))=_
 have:((c.toNat:Int).toNat).toUInt8=c:=by simp
 rw [this];rfl
theorem zti [Sym] (c:UInt8) (N b:Nat) (st0:SS) (hN:N≤4294967296):∀ (k:Nat) (rest:ByteArray) (done:List (List UInt8)) (st:SS),k=(bl rest).count c→done.length+k=N→rest.size≤4294967296→
  st.mem.get b=some (.cells (strs done++List.replicate (k+1) (.string ⟨#[]⟩)) 1)→st.lim≤b→st0.next≤b→b<st.next→Ext st0 st→
  ∃ (rest':ByteArray) (front:List (List UInt8)) (st':SS),zck 11 [.string rest,.string ⟨#[c]⟩,.int .i64 0,.int .i64 N,.slice (some ⟨b,0,none⟩) (N+1) (N+1),.int .i64 done.length] st=some (0,[.string rest',.slice (some ⟨b,0,none⟩) (N+1) (N+1),.int .i64 N],st')∧
   st'.mem.get b=some (.cells (strs (done++front)++[.string ⟨#[]⟩]) 1)∧front++[bl rest']=pieces c (bl rest)∧(done++front).length=N∧st'.lim≤b∧b<st'.next∧Ext st0 st':=by
 intro k
 induction k with
 | zero=>
   intro rest done st hk hd hs hm hl hb0 hb he
   rcases zpM c (bl rest) with ⟨h1,h2,h3⟩ | ⟨m,h1,h2,h3,h4⟩
   ·refine ⟨rest,[],st,ze8 rest _ 0 _ _ _ st ?_,by simpa using hm,by simp [h2],by simp;omega,hl,hb,he⟩
    have:¬ ((done.length:Int)<(N:Int)):=by omega
    simp [zd5,this]
    omega
   ·omega
 | succ k ih=>
   intro rest done st hk hd hs hm hl hb0 hb he
   rcases zpM c (bl rest) with ⟨h1,h2,h3⟩ | ⟨m,h1,h2,h3,h4⟩
   ·omega
   ·rw [zaV] at h2
    have hlt:(done.length:Int)<(N:Int):=by omega
    have hm0:¬ ((m:Int)<0):=by omega
    have hw:IntKind.wrap .i64 (m:Int)=m:=wrap64 (by omega) (by omega)
    have hw1:IntKind.wrap .i64 ((m:Int)+1)=((m+1:Nat):Int):=by rw [wrap64 (by omega) (by omega)];omega
    have hwd:IntKind.wrap .i64 ((done.length:Int)+1)=(((done++[(bl rest).take m]).length:Nat):Int):=by rw [wrap64 (by omega) (by omega)];simp
    have hb1:bl (rest.extract (m+1) rest.size)=(bl rest).drop (m+1):=by
     rw [zkB,List.take_of_length_le (by simp)]
    have hst:st.st b done.length [.string (mkS ((bl rest).take m))]=some (st.set b (some (.cells (strs (done++[(bl rest).take m])++List.replicate (k+1) (.string ⟨#[]⟩)) 1))):=
     SS.st_cells hm hl (by rfl) (by
      rw [zbE (by simp),← znz]
      rfl)
    obtain ⟨rest',front,st',e1,e2,e3,e4,e5,e6,e7⟩:=ih (rest.extract (m+1) rest.size) (done++[(bl rest).take m]) (st.set b (some (.cells (strs (done++[(bl rest).take m])++List.replicate (k+1) (.string ⟨#[]⟩)) 1)))
     (by rw [hb1];omega) (by simp;omega) (by simp;omega) (by simp) hl hb0 hb (he.set hb0 _)
    refine ⟨rest',(bl rest).take m::front,st',ze8 rest _ 0 _ _ _ st ?_,by simpa using e2,by rw [h3,← hb1,← e3];rfl,by simpa using e4,e5,e6,e7⟩
    have hel:zam (.slice (some ⟨b,0,none⟩) (N+1) (N+1)) (done.length:Int) 1=some (b,done.length):=by
     unfold zam
     have:(done.length:Int)<((N+1:Nat):Int):=by omega
     simp only [zdt this]
     simp
    have hs1:zcA rest 0 (m:Int)=some (mkS ((bl rest).take m)):=by rw [zhe (by omega) (by omega) (by omega),zeq];simp
    have hs2:zcA rest ((m+1:Nat):Int) (rest.size:Int)=some (rest.extract (m+1) rest.size):=by rw [zhe (by omega) (by omega) (by omega)];simp
    have hsz:(((⟨#[c]⟩:ByteArray).size:Nat):Int)=1:=rfl
    simp only [zd5,zdt hlt,zct,zxg,zob,zaa,h1,zdf hm0,zcf,Int.add_zero,hw,hs1,hel,hst,hsz,hw1,hs2,hwd]
    exact e1
theorem split_ok [Sym] (s:ByteArray) (c:UInt8) (hs:s.size≤4294967296) (st:SS) (hl:st.lim≤st.next):∃ v st',cc 89 [.string s,.string ⟨#[c]⟩] st=some (v,st')∧Ext st st'∧
  Rd st' v (strs (pieces c (bl s))) 1 (pieces c (bl s)).length:=by
 have hc:=count_le c (bl s)
 rw [zaV] at hc
 obtain ⟨rest',front,st',e1,e2,e3,e4,e5,e6,e7⟩:=zti c ((bl s).count c) st.next st (by omega) _ s [] (st.new (.cells (List.replicate ((bl s).count c+1) (.string ⟨#[]⟩)) 1)) rfl (by simp) hs (by simp [strs]) hl (zlr _) (by simp) ((Ext.refl st).new _)
 simp only [List.nil_append] at e2 e4
 have hlen:(pieces c (bl s)).length=(bl s).count c+1:=by rw [← e3];simp [e4]
 have hst:st'.st st.next ((bl s).count c) [.string rest']=some (st'.set st.next (some (.cells (strs (pieces c (bl s))) 1))):=
  SS.st_cells e2 e5 (by rfl) (by
   rw [← e4,zbE (by simp),← e3]
   rw [List.take_append_of_le_length (by simp),List.take_of_length_le (by simp),zm1]
   congr 2
   simp [strs])
 have hw1:IntKind.wrap .i64 (((bl s).count c:Nat)+1:Int)=(((bl s).count c+1:Nat):Int):=by rw [wrap64 (by omega) (by omega)];omega
 have hw2:IntKind.wrap .i64 ((s.size:Int)+1)=((s.size+1:Nat):Int):=by rw [wrap64 (by omega) (by omega)];omega
 have hw3:IntKind.wrap .i64 ((((bl s).count c+1:Nat):Int)-1)=(((bl s).count c:Nat):Int):=by rw [wrap64 (by omega) (by omega)];omega
 have hmin:(if ((s.size+1:Nat):Int)<(((bl s).count c+1:Nat):Int) then ((s.size+1:Nat):Int) else (((bl s).count c+1:Nat):Int))=(((bl s).count c+1:Nat):Int):=by split<;>omega
 have hmk:zfI (((bl s).count c+1:Nat):Int) (((bl s).count c+1:Nat):Int) 16=some ():=zny (by omega) (by omega) (by omega)
 have hel:zam (.slice (some ⟨st.next,0,none⟩) ((bl s).count c+1) ((bl s).count c+1)) (((bl s).count c:Nat):Int) 1=some (st.next,(bl s).count c):=by
  unfold zam
  have:(((bl s).count c:Nat):Int)<(((bl s).count c+1:Nat):Int):=by omega
  simp only [zdt this]
  simp
 have hre:(st'.set st.next (some (.cells (strs (pieces c (bl s))) 1))).resl (.slice (some ⟨st.next,0,none⟩) ((bl s).count c+1) ((bl s).count c+1)) 1 0 (((bl s).count c+1:Nat):Int)=some (.slice (some ⟨st.next,0,none⟩) ((bl s).count c+1) ((bl s).count c+1)):=by
  unfold SS.resl
  simp
  rfl
 refine ⟨.slice (some ⟨st.next,0,none⟩) ((bl s).count c+1) ((bl s).count c+1),st'.set st.next (some (.cells (strs (pieces c (bl s))) 1)),znx s _ st ?_,e7.set (zlr _) _,by simp,.inr ⟨st.next,(bl s).count c+1,by rw [hlen],⟨1,by simp⟩,e6⟩⟩
 have hgen:cc 105 [.string s,.string ⟨#[c]⟩,.int .i64 0,.int .i64 (-1)] st=some (.slice (some ⟨st.next,0,none⟩) ((bl s).count c+1) ((bl s).count c+1),st'.set st.next (some (.cells (strs (pieces c (bl s))) 1))):=by
  refine zlp s _ 0 (-1) st ?_
  have h0:eqT (⟨#[c]⟩:ByteArray) ⟨#[]⟩=false:=by rfl
  have hm1:decide ((-1:Int)=0)=false:=rfl
  have hm2:decide ((-1:Int)<0)=true:=rfl
  simp only [strings_genSplit,hm1,zcf,h0,hm2,zct,zv2,zob,zaa,hw1,hw2,hmin,hmk,zkI,hw3]
  have e1':zck 11 [.string s,.string ⟨#[c]⟩,.int .i64 0,.int .i64 (((bl s).count c:Nat):Int),.slice (some ⟨st.next,0,none⟩) (Int.toNat (((bl s).count c+1:Nat):Int)) (Int.toNat (((bl s).count c+1:Nat):Int)),.int .i64 0] (st.new (.cells (List.replicate ((bl s).count c+1) (.string ⟨#[]⟩)) 1))=some (0,[.string rest',.slice (some ⟨st.next,0,none⟩) ((bl s).count c+1) ((bl s).count c+1),.int .i64 (((bl s).count c:Nat):Int)],st'):=e1
  rw [e1']
  simp only [zob,zgz,zgs,zad,zaa,hel,hst,hw1,hre]
 simp only [strings_Split,hgen,zob]
end Go.Proofs.YtifploedaacedaaGreatDoorE
namespace Go.Proofs.YtifploedaacedaaGreatDoorE
set_option maxRecDepth 20000
open Go Go.E Go.Proofs
def zlf:LoopI:=⟨[(0,.str),(1,.int .i64),(7,.any),(8,.int .i64)],[(.exit 0,[(0,.str),(1,.int .i64),(7,.any)]),(.ret,[(4,.any),(5,.int .i64),(6,.bool)])]⟩
def zlU (n:Nat):Option LoopI:=cond (Nat.beq n 3) (some zlf) (none)
noncomputable def zlV (cf:zak) (lf:zac) (s':ByteArray) (at0':Int) (st:SS):Option (Value×SS):=
 (lf 3 [.string s',.int .i64 at0',.slice none 0 0,.int .i64 0] st).bind fun a=>
 cond (Nat.beq a.1 0) (
 ((a.2.1[0]?).bind asS).bind fun b=>
 ((a.2.1[1]?).bind (asI .i64)).bind fun c=>
 (a.2.1[2]?).bind fun d=>
 let e:Int:=IntKind.wrap .i64 ((b.size:Int)+1)
 let f:SS:=a.2.2.new (.cells ([.int .i64 0,.string ⟨#[]⟩,.int .i64 0,.int .i64 c,.int .i64 e]) 5)
 (f.app 5 48 d (.slice (some ⟨a.2.2.next,0,none⟩) 1 1)).bind fun g=>
 some (.tuple #[g.1,.int .i64 0,.bool true],g.2)) (
 (a.2.1[0]?).bind fun h=>
 ((a.2.1[1]?).bind (asI .i64)).bind fun i=>
 ((a.2.1[2]?).bind asB).bind fun j=>
 some (.tuple #[h,.int .i64 i,.bool j],a.2.2))
noncomputable abbrev zbG:zac:=lS Tryz.prog Lk0 Tryz.f90 zlU
theorem zq2:Lk0.func 90=some (90,Tryz.f90):=by kernel_rfl
theorem zlW [Sym] (s':ByteArray) (at0':Int) (st:SS) {r:Value×SS} (h:zlV cc zbG s' at0' st=some r):cc 90 [.string s',.int .i64 at0'] st=some r:=
 zaf (li:=zlU) zai zal zq2 rfl (fun _=>rfl) (.trans (by kernel_rfl) h)
noncomputable def zbH (cf:zak) (lf:zac) (s':ByteArray) (at0':Int) (out':Value) (col':Int) (st:SS):Option (Nat×List Value×SS):=
 cond (decide (col'<(s'.size:Int))) (
 let a:Int:=IntKind.wrap .i64 (col'+1)
 let b:SS:=st.new (.cells [.int .i64 0,.string ⟨#[]⟩,.int .i64 0,.int .i64 0,.int .i64 0] 0)
 (b.st st.next 0 [.int .i64 0,.string ⟨#[]⟩,.int .i64 0,.int .i64 at0',.int .i64 a]).bind fun c=>
 ((zcB s' col').bind (asI .u8)).bind fun d=>
 cond (decide (d=59)) (
 lf 3 [.string s',.int .i64 at0',out',.int .i64 (s'.size:Int)] c) (
 cond (decide (d=32)) (
 let e:Int:=IntKind.wrap .i64 (col'+1)
 lf 3 [.string s',.int .i64 at0',out',.int .i64 e] c) (
 cond (decide (d=9)) (
 let f:Int:=IntKind.wrap .i64 (col'+1)
 lf 3 [.string s',.int .i64 at0',out',.int .i64 f] c) (
 cond (decide (d=13)) (
 let g:Int:=IntKind.wrap .i64 (col'+1)
 lf 3 [.string s',.int .i64 at0',out',.int .i64 g] c) (
 (cf 106 [.int .u8 d] c).bind fun h=>
 ((some h.1).bind asB).bind fun i=>
 cond i (
 (zcA s' col' (s'.size:Int)).bind fun j=>
 (cf 107 [.string j] h.2).bind fun k=>
 ((some k.1).bind (asI .i64)).bind fun l=>
 let m:Int:=IntKind.wrap .i64 (col'+l)
 (zcA s' col' m).bind fun n=>
 (k.2.st st.next 0 [.int .i64 1]).bind fun o=>
 (o.st st.next 1 [.string n]).bind fun p=>
 ((p.ld st.next 1).bind asS).bind fun q=>
 cond (decide (24<(q.size:Int))) (
 ((p.ld st.next 4).bind (asI .i64)).bind fun r=>
 some (1,[.slice none 0 0,.int .i64 r,.bool false],p)) (
 ((p.ld st.next 1).bind asS).bind fun s=>
 let t:Int:=IntKind.wrap .i64 (col'+(s.size:Int))
 (p.ldN st.next 0 5).bind fun u=>
 (za0 u 5).bind fun v=>
 let w:SS:=p.new (.cells (v++([])) 5)
 (w.app 5 48 out' (.slice (some ⟨p.next,0,none⟩) 1 1)).bind fun x=>
 lf 3 [.string s',.int .i64 at0',x.1,.int .i64 t] x.2)) (
 (cf 108 [.int .u8 d] h.2).bind fun y=>
 ((some y.1).bind asB).bind fun z=>
 cond z (
 (zcA s' col' (s'.size:Int)).bind fun A=>
 (cf 107 [.string A] y.2).bind fun B=>
 ((some B.1).bind (asI .i64)).bind fun C=>
 let D:Int:=IntKind.wrap .i64 (col'+C)
 (zcA s' col' D).bind fun E=>
 (B.2.st st.next 0 [.int .i64 2]).bind fun F=>
 (F.st st.next 1 [.string E]).bind fun G=>
 ((G.ld st.next 1).bind asS).bind fun H=>
 (cf 109 [.string H] G).bind fun I=>
 ((zar I.1 0).bind (asI .i64)).bind fun J=>
 ((zar I.1 1).bind asB).bind fun K=>
 (I.2.st st.next 2 [.int .i64 J]).bind fun L=>
 cond (!K) (
 ((L.ld st.next 4).bind (asI .i64)).bind fun M=>
 some (1,[.slice none 0 0,.int .i64 M,.bool false],L)) (
 ((L.ld st.next 1).bind asS).bind fun N=>
 let O:Int:=IntKind.wrap .i64 (col'+(N.size:Int))
 (L.ldN st.next 0 5).bind fun P=>
 (za0 P 5).bind fun Q=>
 let R:SS:=L.new (.cells (Q++([])) 5)
 (R.app 5 48 out' (.slice (some ⟨L.next,0,none⟩) 1 1)).bind fun S=>
 lf 3 [.string s',.int .i64 at0',S.1,.int .i64 O] S.2)) (
 (cf 110 [.string ⟨#[58,61,46,43,45]⟩,.int .u8 d] y.2).bind fun T=>
 ((some T.1).bind (asI .i64)).bind fun U=>
 cond (decide (0≤U)) (
 let V:Int:=IntKind.wrap .i64 (col'+1)
 (zcA s' col' V).bind fun W=>
 (T.2.st st.next 0 [.int .i64 3]).bind fun X=>
 (X.st st.next 1 [.string W]).bind fun Y=>
 ((Y.ld st.next 1).bind asS).bind fun Z=>
 let aA:Int:=IntKind.wrap .i64 (col'+(Z.size:Int))
 (Y.ldN st.next 0 5).bind fun aB=>
 (za0 aB 5).bind fun aC=>
 let aD:SS:=Y.new (.cells (aC++([])) 5)
 (aD.app 5 48 out' (.slice (some ⟨Y.next,0,none⟩) 1 1)).bind fun aE=>
 lf 3 [.string s',.int .i64 at0',aE.1,.int .i64 aA] aE.2) (
 ((T.2.ld st.next 4).bind (asI .i64)).bind fun aF=>
 some (1,[.slice none 0 0,.int .i64 aF,.bool false],T.2))))))))) (
 some (0,[.string s',.int .i64 at0',out'],st))
theorem zbe [Sym] (s':ByteArray) (at0':Int) (out':Value) (col':Int) (st:SS) {r:Nat×List Value×SS} (h:zbH cc zbG s' at0' out' col' st=some r):zbG 3 [.string s',.int .i64 at0',out',.int .i64 col'] st=some r:=
 zaw zai zal (key:=3) (I:=zlf) rfl (by kernel_rfl) (by kernel_rfl) rfl rfl (.trans (by kernel_rfl) h)
def zlX:LoopI:=⟨[(3,.any),(5,.any),(16,.any),(17,.int .i64),(18,.int .i64)],[(.exit 0,[(3,.any),(5,.any)]),(.ret,[(2,.any),(3,.any),(4,.int .i64)])]⟩
def zm3 (n:Nat):Option LoopI:=cond (Nat.beq n 5) (some zlX) (none)
noncomputable def znA (cf:zak) (lf:zac) (text':ByteArray) (st:SS):Option (Value×SS):=
 let a:SS:=st.new (.cells [.int .i64 0,.int .i64 0] 0)
 cond (decide (131072<(text'.size:Int))) (
 (a.st st.next 0 [.int .i64 0,.int .i64 0]).bind fun b=>
 (b.rdN st.next 0 2).bind fun c=>
 some (.tuple #[.slice none 0 0,c,.int .i64 3],b)) (
 (cf 89 [.string text',.string ⟨#[10]⟩] a).bind fun d=>
 ((lenV d.1).bind (asI .i64)).bind fun e=>
 (lf 5 [ptr st.next 0,.slice none 0 0,d.1,.int .i64 e,.int .i64 0] d.2).bind fun f=>
 cond (Nat.beq f.1 0) (
 (f.2.1[0]?).bind fun g=>
 (f.2.1[1]?).bind fun h=>
 (addr? g).bind fun i=>
 (f.2.2.st i.1 i.2 [.int .i64 0,.int .i64 0]).bind fun j=>
 (addr? g).bind fun k=>
 (j.rdN k.1 k.2 2).bind fun l=>
 some (.tuple #[h,l,.int .i64 0],j)) (
 (f.2.1[0]?).bind fun m=>
 (f.2.1[1]?).bind fun n=>
 ((f.2.1[2]?).bind (asI .i64)).bind fun o=>
 (addr? n).bind fun p=>
 (f.2.2.rdN p.1 p.2 2).bind fun q=>
 some (.tuple #[m,q,.int .i64 o],f.2.2)))
noncomputable abbrev zer:zac:=lS Tryz.prog Lk0 Tryz.f67 zm3
theorem zrQ:Lk0.func 67=some (67,Tryz.f67):=by kernel_rfl
theorem zm4 [Sym] (text':ByteArray) (st:SS) {r:Value×SS} (h:znA cc zer text' st=some r):cc 67 [.string text'] st=some r:=
 zaf (li:=zm3) zai zal zrQ rfl (fun _=>rfl) (.trans (by kernel_rfl) h)
noncomputable def zg3 (cf:zak) (lf:zac) (t3':Value) (out':Value) (t16':Value) (t17':Int) (t18':Int) (st:SS):Option (Nat×List Value×SS):=
 cond (decide (t18'<t17')) (
 (zam t16' t18' 1).bind fun a=>
 ((st.ld a.1 a.2).bind asS).bind fun b=>
 let c:Int:=IntKind.wrap .i64 (t18'+1)
 (cf 90 [.string b,.int .i64 c] st).bind fun d=>
 (zar d.1 0).bind fun e=>
 ((zar d.1 1).bind (asI .i64)).bind fun f=>
 ((zar d.1 2).bind asB).bind fun g=>
 cond (!g) (
 let h:Int:=IntKind.wrap .i64 (t18'+1)
 (addr? t3').bind fun i=>
 (d.2.st i.1 i.2 [.int .i64 h,.int .i64 f]).bind fun j=>
 some (1,[.slice none 0 0,t3',.int .i64 4],j)) (
 (d.2.app 5 48 out' e).bind fun k=>
 let l:Int:=IntKind.wrap .i64 (t18'+1)
 lf 5 [t3',k.1,t16',.int .i64 t17',.int .i64 l] k.2)) (
 some (0,[t3',out'],st))
theorem zgP [Sym] (t3':Value) (out':Value) (t16':Value) (t17':Int) (t18':Int) (st:SS) {r:Nat×List Value×SS} (h:zg3 cc zer t3' out' t16' t17' t18' st=some r):zer 5 [t3',out',t16',.int .i64 t17',.int .i64 t18'] st=some r:=
 zaw zai zal (key:=5) (I:=zlX) rfl (by kernel_rfl) (by kernel_rfl) rfl rfl (.trans (by kernel_rfl) h)
end Go.Proofs.YtifploedaacedaaGreatDoorE
namespace Go.Proofs.YtifploedaacedaaGreatDoorE
open Go Go.E Go.Proofs
structure Gd (st:SS):Prop where
 g4:st.mem.get 6=some (.table [.chan (some 6)])
 g5:st.mem.get 7=some (.table [.chan (some 7)])
 gF:st.mem.get 0=some (.table fieldsC)
 gS:st.mem.get 2=some (.table asciiC)
 nx:12≤st.next
theorem Gd.ext {st st':SS} (h:Gd st) (he:Ext st st'):Gd st':=
 ⟨he.get (by have:=h.nx;omega) h.g4,he.get (by have:=h.nx;omega) h.g5,he.get (by have:=h.nx;omega) h.gF,he.get (by have:=h.nx;omega) h.gS,zlt h.nx he.next⟩
theorem Gd.ro {st:SS} {n:Nat} (h:Gd st):Gd (st.ro n):=⟨h.g4,h.g5,h.gF,h.gS,h.nx⟩
theorem zrR (p l:List UInt8):(l.take p.length=p)↔p.isPrefixOf l=true:=by
 rw [List.isPrefixOf_iff_prefix,List.prefix_iff_eq_take]
 exact eq_comm
theorem zq3 [Sym] (s p:ByteArray) (st:SS):cc 160 [.string s,.string p] st=some (.bool ((bl p).isPrefixOf (bl s)),st):=by
 refine zhL s p st ?_
 unfold zfq
 by_cases h:(p.size:Int)≤(s.size:Int)
 ·simp only [zdt h,zct,zhe (s:=s) (l:=0) (h:=p.size) (by omega) (by omega) h,zob,zfN]
  congr 3
  rw [Bool.eq_iff_iff,decide_eq_true_eq,← zrR,zkB,zaV]
  simp
 ·simp only [zdf h,zcf]
  congr 3
  have:(bl p).isPrefixOf (bl s)=false:=by
   rw [Bool.eq_false_iff]
   intro hp
   rw [List.isPrefixOf_iff_prefix] at hp
   have:=hp.length_le
   simp at this
   omega
  rw [this]
theorem zq4 [Sym] (s p:ByteArray) (st:SS):cc 130 [.string s,.string p] st=some (.tuple #[.string (if (bl p).isPrefixOf (bl s) then mkS ((bl s).drop p.size) else s),.bool ((bl p).isPrefixOf (bl s))],st):=by
 have h1:cc 145 [.string s,.string p] st=some (.tuple #[.string (if (bl p).isPrefixOf (bl s) then mkS ((bl s).drop p.size) else s),.bool ((bl p).isPrefixOf (bl s))],st):=by
  refine zhI s p st ?_
  unfold zfp
  rw [zq3]
  cases hp:(bl p).isPrefixOf (bl s) with
  | false=>simp
  | true=>
    have hp':=hp
    rw [List.isPrefixOf_iff_prefix] at hp'
    have:=hp'.length_le
    simp only [zaV] at this
    simp [zhe (s:=s) (l:=p.size) (h:=s.size) (by omega) (by omega) (by omega),zeq]
    rw [List.take_of_length_le (by simp)]
 refine zkF s p st ?_
 unfold strings_CutPrefix
 rw [h1]
 rfl
def zev (b:UInt8):Nat:=(orI .u8 b.toNat 32).toNat
theorem zlY (n:Int):0≤IntKind.wrap .u8 n∧IntKind.wrap .u8 n<256:=by
 rw [← zib]
 show 0≤((zd1 n 256:Nat):Int)∧((zd1 n 256:Nat):Int)<256
 rw [zgL _ _ (by decide)]
 omega
theorem zuF (b:UInt8):orI .u8 b.toNat 32=(zev b:Int):=by
 have:=(zlY ((BitVec.ofInt 8 b.toNat||| BitVec.ofInt 8 32).toNat:Nat)).1
 unfold zev
 rw [Int.toNat_of_nonneg]
 exact this
theorem low_lt (b:UInt8):zev b<256:=by
 have:=(zlY ((BitVec.ofInt 8 b.toNat||| BitVec.ofInt 8 32).toNat:Nat)).2
 have h2:=zuF b
 have h3:orI .u8 b.toNat 32<256:=this
 omega
theorem zv3 [Sym] (b:UInt8) (st:SS):cc 161 [.int .u8 b.toNat] st=some (.int .u8 (zev b),st):=by
 refine zmC _ st ?_
 unfold zjQ
 rw [zuF]
def zkJ (b:UInt8):Option Nat:=if 48≤b.toNat∧b.toNat≤57 then some (b.toNat-48) else if 97≤zev b∧zev b≤122 then some (zev b-87) else none
def zcl (B:Nat):Nat→List UInt8→Option (Option Nat)
 | n,[]=>some (some n)
 | n,b::r=>match zkJ b with
   | none=>none
   | some d=>if B≤d then none else if 2147483647<n*B+d then some none else zcl B (n*B+d) r
def puR (x:Option (Option Nat)) (s:ByteArray) (st:SS):Nat×List Value×SS:=match x with
 | none=>(1,[.int .u64 0,.iface 228 (.int .i64 2)],st)
 | some none=>(1,[.int .u64 2147483647,.iface 228 (.int .i64 1)],st)
 | some (some m)=>(0,[.string s,.bool false,.int .u64 m],st)
theorem zsw [Sym] (s s0:ByteArray) (B:Nat) (hB:0<B∧B≤16) (C:Int) (hC:2147483648≤C) (i cap:Nat) (st:SS) (hs:s.size≤4294967296) (hm:st.mem.get i=some (.cells (s.data.toList.map fun b=>.int .u8 b.toNat) 1)):∀ (l:List UInt8) (p n:Nat),(bl s).drop p=l→p≤s.size→n≤2147483647→
  zh0 36 [.int .i64 B,.bool false,.string s0,.int .u64 C,.int .u64 2147483647,.bool false,.int .u64 n,.slice (some ⟨i,0,none⟩) s.size cap,.int .i64 s.size,.int .i64 p] st=some (puR (zcl B n l) s0 st):=by
 intro l
 induction l with
 | nil=>
   intro p n hp hle hn
   have hps:p=s.size:=by
    rw [List.drop_eq_nil_iff,zaV] at hp
    omega
   subst hps
   refine zm2 _ _ _ _ _ _ _ _ _ st ?_
   simp [zd6,zcl,puR]
 | cons b r ih=>
   intro p n hp hle hn
   have hb:(bl s)[p]?=some b:=by
    have:=congrArg (·[0]?) hp
    simpa using this
   have hlt:p<s.size:=by
    obtain ⟨h,_⟩:=List.getElem?_eq_some_iff.1 hb
    simpa using h
   have hr:(bl s).drop (p+1)=r:=by
    have:=drop_cons hb
    rw [hp] at this
    exact (List.cons.inj this).2.symm
   have hlt':(p:Int)<(s.size:Int):=by omega
   have hel:zam (.slice (some ⟨i,0,none⟩) s.size cap) (p:Int) 1=some (i,p):=by
    unfold zam
    simp [hlt]
   have hld:(st.ld i p).bind (asI .u8)=some (b.toNat:Int):=by
    rw [SS.ld_cells hm,List.getElem?_map]
    show (((bl s)[p]?).map _).bind _=_
    rw [hb]
    rfl
   have hwp:IntKind.wrap .i64 ((p:Int)+1)=((p+1:Nat):Int):=by rw [wrap64 (by omega) (by omega)];omega
   have hB8:IntKind.wrap .u8 (B:Int)=B:=zjP (by omega) (by omega)
   have hB64:IntKind.wrap .u64 (B:Int)=B:=zdO (by omega) (by omega)
   have hmul:n*B≤2147483647*16:=Nat.mul_le_mul hn hB.2
   have hmulw:IntKind.wrap .u64 ((n:Int)*(B:Int))=((n*B:Nat):Int):=by
    rw [← Int.natCast_mul]
    exact zdO (by omega) (by omega)
   have hCn:¬ C≤(n:Int):=by omega
   have hlow:=low_lt b
   have hbl:=b.toNat_lt
   have fin:∀ d:Nat,d<256→zkJ b=some d→∀ (q:Int),q=d→
    (cond (decide ((B:Int)≤q)) (some (1,[Value.int .u64 0,.iface 228 (.int .i64 2)],st)) (
     cond (decide (C≤(n:Int))) (some (1,[.int .u64 2147483647,.iface 228 (.int .i64 1)],st)) (
      cond (decide (IntKind.wrap .u64 (((n*B:Nat):Int)+IntKind.wrap .u64 q)<((n*B:Nat):Int))) (some (1,[.int .u64 2147483647,.iface 228 (.int .i64 1)],st)) (
       cond (decide (2147483647<IntKind.wrap .u64 (((n*B:Nat):Int)+IntKind.wrap .u64 q))) (some (1,[.int .u64 2147483647,.iface 228 (.int .i64 1)],st)) (
        zh0 36 [.int .i64 B,.bool false,.string s0,.int .u64 C,.int .u64 2147483647,.bool false,.int .u64 (IntKind.wrap .u64 (((n*B:Nat):Int)+IntKind.wrap .u64 q)),.slice (some ⟨i,0,none⟩) s.size cap,.int .i64 s.size,.int .i64 ((p+1:Nat):Int)] st)))))=some (puR (zcl B n (b::r)) s0 st):=by
    intro d hd hv q hq
    subst hq
    have hw1:IntKind.wrap .u64 (d:Int)=d:=zdO (by omega) (by omega)
    have hw2:IntKind.wrap .u64 (((n*B:Nat):Int)+(d:Int))=((n*B+d:Nat):Int):=by
     rw [← Int.natCast_add]
     exact zdO (by omega) (by omega)
    have hnl:¬ (((n*B+d:Nat):Int)<((n*B:Nat):Int)):=by omega
    rw [hw1,hw2,zdf hCn,zdf hnl]
    unfold zcl
    rw [hv]
    by_cases h1:B≤d
    ·have h1':(B:Int)≤(d:Int):=by omega
     simp [h1,puR]
    ·have h1':¬ (B:Int)≤(d:Int):=by omega
     rw [zdf h1']
     simp only [zcf,h1,if_false]
     by_cases h2:2147483647<n*B+d
     ·have h2':(2147483647:Int)<((n*B+d:Nat):Int):=by omega
      rw [zdt h2',if_pos h2]
      rfl
     ·have h2':¬ (2147483647:Int)<((n*B+d:Nat):Int):=by omega
      rw [zdf h2',if_neg h2]
      exact ih (p+1) (n*B+d) hr (by omega) (by omega)
   refine zm2 _ _ _ _ _ _ _ _ _ st ?_
   by_cases hdig:48≤b.toNat∧b.toNat≤57
   ·have h1:(48:Int)≤(b.toNat:Int):=by omega
    have h2:(b.toNat:Int)≤57:=by omega
    have h3:¬ (b.toNat:Int)=95:=by omega
    have hw:IntKind.wrap .u8 ((b.toNat:Int)-48)=((b.toNat-48:Nat):Int):=by rw [zjP (by omega) (by omega)];omega
    have:=fin (b.toNat-48) (by omega) (by unfold zkJ;rw [if_pos hdig]) _ rfl
    simp only [zd6,zdt hlt',zct,hel,zob,hld,zdf h3,zcf,zdt h1,zdt h2,hw,hB8,hB64,hmulw,hwp]
    exact this
   ·have hlo:=zv3 b st
    have h4857:decide ((48:Int)≤(b.toNat:Int))=false∨(decide ((48:Int)≤(b.toNat:Int))=true∧decide ((b.toNat:Int)≤57)=false):=by
     by_cases h:(48:Int)≤(b.toNat:Int)
     ·exact .inr ⟨zdt h,zdf (by omega)⟩
     ·exact .inl (zdf h)
    by_cases h1:97≤zev b
    ·have h1':(97:Int)≤(zev b:Int):=by omega
     have hw1:IntKind.wrap .u8 ((zev b:Int)-97)=((zev b-97:Nat):Int):=by rw [zjP (by omega) (by omega)];omega
     by_cases h2:zev b≤122
     ·have h2':(zev b:Int)≤122:=by omega
      have hw2:IntKind.wrap .u8 (((zev b-97:Nat):Int)+10)=((zev b-87:Nat):Int):=by rw [zjP (by omega) (by omega)];omega
      have:=fin (zev b-87) (by omega) (by unfold zkJ;rw [if_neg hdig,if_pos ⟨h1,h2⟩]) _ rfl
      rcases h4857 with h48 | ⟨h48,h57⟩
      ·cases h95:decide ((b.toNat:Int)=95)
       all_goals
        simp only [zd6,zdt hlt',zct,hel,zob,hld,h95,zcf,h48,hlo,zaa,zdt h1',zdt h2',hw1,hw2,hB8,hB64,hmulw,hwp]
        exact this
      ·cases h95:decide ((b.toNat:Int)=95)
       all_goals
        simp only [zd6,zdt hlt',zct,hel,zob,hld,h95,zcf,h48,h57,hlo,zaa,zdt h1',zdt h2',hw1,hw2,hB8,hB64,hmulw,hwp]
        exact this
     ·have h2':¬ (zev b:Int)≤122:=by omega
      have hv:zkJ b=none:=by unfold zkJ;rw [if_neg hdig,if_neg (by omega)]
      have e:zcl B n (b::r)=none:=by unfold zcl;rw [hv]
      rw [e]
      rcases h4857 with h48 | ⟨h48,h57⟩
      ·cases h95:decide ((b.toNat:Int)=95)
       all_goals
        simp only [zd6,zdt hlt',zct,hel,zob,hld,h95,zcf,h48,hlo,zaa,zdt h1',zdf h2',puR]
      ·cases h95:decide ((b.toNat:Int)=95)
       all_goals
        simp only [zd6,zdt hlt',zct,hel,zob,hld,h95,zcf,h48,h57,hlo,zaa,zdt h1',zdf h2',puR]
    ·have h1':¬ (97:Int)≤(zev b:Int):=by omega
     have hv:zkJ b=none:=by unfold zkJ;rw [if_neg hdig,if_neg (by omega)]
     have e:zcl B n (b::r)=none:=by unfold zcl;rw [hv]
     rw [e]
     rcases h4857 with h48 | ⟨h48,h57⟩
     ·cases h95:decide ((b.toNat:Int)=95)
      all_goals
       simp only [zd6,zdt hlt',zct,hel,zob,hld,h95,zcf,h48,hlo,zaa,zdf h1',puR]
     ·cases h95:decide ((b.toNat:Int)=95)
      all_goals
       simp only [zd6,zdt hlt',zct,hel,zob,hld,h95,zcf,h48,h57,hlo,zaa,zdf h1',puR]
def zbf (B:Nat) (l:List UInt8):Option (Option Nat):=if l=[] then none else zcl B 0 l
def puV (x:Option (Option Nat)):Int×Option Nat:=match x with
 | none=>(0,some 4)
 | some none=>(2147483647,some 5)
 | some (some m)=>(m,none)
def zgQ (x:Option (Option Nat)):Int×Bool:=((puV x).1,(puV x).2.isNone)
def puE (x:Option (Option Nat)):Value:=match x with
 | none=>.iface 228 (.int .i64 2)
 | some none=>.iface 228 (.int .i64 1)
 | some (some m)=>.nilIface
theorem zi2 (s:ByteArray):eqT s ⟨#[]⟩=decide (bl s=[]):=rfl
theorem zxh [Sym] (s:ByteArray) (hs:s.size≤4294967296) (st:SS):∃ st',cc 146 [.string s,.int .i64 10,.int .i64 31] st=some (.tuple #[.int .u64 (puV (zbf 10 (bl s))).1,puE (zbf 10 (bl s))],st')∧Ext st st':=by
 have hsh:IntKind.wrap .u64 (zlF .u64 1 31-1)=2147483647:=by decide
 by_cases h0:bl s=[]
 ·refine ⟨st,zss s st ?_,.refl _⟩
  simp [pu10,zi2,h0,zbf,puV,puE]
 ·refine ⟨st.new (.cells (s.data.toList.map fun b=>.int .u8 b.toNat) 1),zss s st ?_,(Ext.refl st).new _⟩
  have:=zsw s s 10 (by omega) 1844674407370955162 (by omega) st.next s.size (st.new (.cells (s.data.toList.map fun b=>.int .u8 b.toNat) 1)) hs (by simp) (bl s) 0 0 rfl (by omega) (by omega)
  have this':zh0 36 [.int .i64 10,.bool false,.string s,.int .u64 1844674407370955162,.int .u64 2147483647,.bool false,.int .u64 0,.slice (some ⟨st.next,0,none⟩) s.size s.size,.int .i64 ((s.size:Nat):Int),.int .i64 0] (st.new (.cells (s.data.toList.map fun b=>.int .u8 b.toNat) 1))=_:=this
  simp only [pu10,zi2,zdf h0,zcf,hsh,this',zob,zbf,if_neg h0]
  rcases zcl 10 0 (bl s) with _ | _ | m<;>simp [puR,puV,puE]
theorem zxi [Sym] (s:ByteArray) (hs:s.size≤4294967296) (st:SS):∃ st',cc 146 [.string s,.int .i64 16,.int .i64 31] st=some (.tuple #[.int .u64 (puV (zbf 16 (bl s))).1,puE (zbf 16 (bl s))],st')∧Ext st st':=by
 have hsh:IntKind.wrap .u64 (zlF .u64 1 31-1)=2147483647:=by decide
 by_cases h0:bl s=[]
 ·refine ⟨st,zsv s st ?_,.refl _⟩
  simp [pu16,zi2,h0,zbf,puV,puE]
 ·refine ⟨st.new (.cells (s.data.toList.map fun b=>.int .u8 b.toNat) 1),zsv s st ?_,(Ext.refl st).new _⟩
  have:=zsw s s 16 (by omega) 1152921504606846976 (by omega) st.next s.size (st.new (.cells (s.data.toList.map fun b=>.int .u8 b.toNat) 1)) hs (by simp) (bl s) 0 0 rfl (by omega) (by omega)
  have this':zsu 36 [.int .i64 16,.bool false,.string s,.int .u64 1152921504606846976,.int .u64 2147483647,.bool false,.int .u64 0,.slice (some ⟨st.next,0,none⟩) s.size s.size,.int .i64 ((s.size:Nat):Int),.int .i64 0] (st.new (.cells (s.data.toList.map fun b=>.int .u8 b.toNat) 1))=_:=this
  simp only [pu16,zi2,zdf h0,zcf,hsh,this',zob,zbf,if_neg h0]
  rcases zcl 16 0 (bl s) with _ | _ | m<;>simp [puR,puV,puE]
theorem zv4 [Sym] {st:SS} (hg:Gd st) (fn s:ByteArray) (hs:s.size≤4294967296) (base bits:Int) (x:Option (Option Nat)) (hx:(puV x).2.isNone=false):
  cc 147 [.string fn,.string s,.int .i64 base,.int .i64 bits,puE x] st=some (.iface 230 (.pointer (some ⟨st.next,0,none⟩)),st.adv (st.next+1)):=by
 have hq:Nat.ble s.size 281474976710656=true:=by rw [Nat.ble_eq];omega
 have hn:=hg.nx
 rcases x with _ | _ | m
 ·have h:=zpJ (P:=Tryz.prog) (L:=Lk0) (f:=147) (args:=[.string fn,.string s,.int .i64 base,.int .i64 bits,.iface 228 (.int .i64 2)]) (st:=st) (c:=zfo st.next 6) (by rfl)
   (by show zns 147 [.string fn,.string s,.int .i64 base,.int .i64 bits,.iface 228 (.int .i64 2)] st.next=_;simp [zns, -zqZ,hq]) (by
    have h4:Nat.blt 6 st.next=true:=by rw [Nat.blt_eq];omega
    have hgl:Lk0.glob 6=true:=rfl
    simp [zfo,hg.g4,zgb,zki,h4,hgl])
  exact h
 ·have h:=zpJ (P:=Tryz.prog) (L:=Lk0) (f:=147) (args:=[.string fn,.string s,.int .i64 base,.int .i64 bits,.iface 228 (.int .i64 1)]) (st:=st) (c:=zfo st.next 7) (by rfl)
   (by show zns 147 [.string fn,.string s,.int .i64 base,.int .i64 bits,.iface 228 (.int .i64 1)] st.next=_;simp [zns, -zqZ,hq]) (by
    have h4:Nat.blt 7 st.next=true:=by rw [Nat.blt_eq];omega
    have hgl:Lk0.glob 7=true:=rfl
    simp [zfo,hg.g5,zgb,zki,h4,hgl])
  exact h
 ·cases hx
theorem zlZ [Sym] {st:SS} (hg:Gd st) (s:ByteArray) (hs:s.size≤4294967296) (base:Int) (B:Nat) (hb:(base=10∧B=10)∨(base=16∧B=16)):
  ∃ e st',cc 131 [.string s,.int .i64 base,.int .i64 31] st=some (.tuple #[.int .u64 (puV (zbf B (bl s))).1,e],st')∧zgd e=some (puV (zbf B (bl s))).2.isNone∧Ext st st':=by
 have h:∃ st',cc 146 [.string s,.int .i64 base,.int .i64 31] st=some (.tuple #[.int .u64 (puV (zbf B (bl s))).1,puE (zbf B (bl s))],st')∧Ext st st':=by
  rcases hb with ⟨rfl,rfl⟩ | ⟨rfl,rfl⟩
  ·exact zxh s hs st
  ·exact zxi s hs st
 obtain ⟨st',h1,h2⟩:=h
 have hE:zgd (puE (zbf B (bl s)))=some (puV (zbf B (bl s))).2.isNone:=by
  rcases zbf B (bl s) with _ | _ | m<;>rfl
 cases hx:(puV (zbf B (bl s))).2.isNone with
 | true=>
   refine ⟨.nilIface,st',zgh s _ _ st ?_,rfl,h2⟩
   rw [hx] at hE
   simp [zfi,h1,zar,hE]
 | false=>
   refine ⟨.iface 230 (.pointer (some ⟨st'.next,0,none⟩)),st'.adv (st'.next+1),zgh s _ _ st ?_,rfl,h2.adv (Nat.le_succ _)⟩
   rw [hx] at hE
   simp [zfi,h1,zar,hE,zv4 (hg.ext h2) _ s hs _ _ _ hx]
def hexP (l:List UInt8):Bool:=[48,120].isPrefixOf l
def zd7 (l:List UInt8):Option (Option Nat):=if hexP l then zbf 16 (l.drop 2) else zbf 10 l
theorem zq5 {B n m:Nat} {l:List UInt8} (h:zcl B n l=some (some m)):Lib.indexByte l 95= -1:=by
 induction l generalizing n with
 | nil=>rfl
 | cons b r ih=>
   unfold zcl at h
   split at h
   ·cases h
   ·rename_i d hd
    split at h
    ·cases h
    ·split at h
     ·cases h
     ·have hb:b≠95:=by
       rintro rfl
       have:zkJ 95=none:=by decide
       rw [this] at hd;cases hd
      simp [Lib.indexByte,hb,ih h]
theorem zpN {B:Nat} {l:List UInt8} (h:(puV (zbf B l)).2.isNone=true):Lib.indexByte l 95= -1:=by
 unfold zbf at h
 split at h
 ·cases h
 ·cases hp:zcl B 0 l with
  | none=>rw [hp] at h;cases h
  | some x=>cases x with
    | none=>rw [hp] at h;cases h
    | some m=>exact zq5 hp
theorem zhg {B:Nat} {l:List UInt8}:0≤(puV (zbf B l)).1∧(puV (zbf B l)).1≤2147483647:=by
 have:∀ (l:List UInt8) (n m:Nat),n≤2147483647→zcl B n l=some (some m)→m≤2147483647:=by
  intro l
  induction l with
  | nil=>intro n m hn h;cases h;exact hn
  | cons b r ih=>
    intro n m hn h
    unfold zcl at h
    split at h
    ·cases h
    ·split at h
     ·cases h
     ·split at h
      ·cases h
      ·exact ih _ _ (by omega) h
 unfold zbf
 split
 ·simp [puV]
 ·cases hp:zcl B 0 l with
  | none=>simp [puV]
  | some x=>cases x with
    | none=>simp [puV]
    | some m=>have:=this l 0 m (by omega) hp;simp only [puV];omega
theorem zuG [Sym] {st:SS} (hg:Gd st) (s:ByteArray) (hs:s.size≤4294967296):∃ n,st.next≤n∧cc 109 [.string s] st=some (.tuple #[.int .i64 (zgQ (zd7 (bl s))).1,.bool (zgQ (zd7 (bl s))).2],st.adv n):=by
 have hcut:=zq4 s ⟨#[48,120]⟩ (st.ro st.next)
 have hp:(bl (⟨#[48,120]⟩:ByteArray))=[48,120]:=rfl
 have hsz:(⟨#[48,120]⟩:ByteArray).size=2:=rfl
 rw [hp,hsz] at hcut
 cases hh:hexP (bl s) with
 | true=>
   have hh':=hh
   unfold hexP at hh'
   rw [hh'] at hcut
   obtain ⟨e,st',h1,h2,h3⟩:=zlZ (st:=st.ro st.next) (hg.ro) (mkS ((bl s).drop 2)) (by simp;omega) 16 16 (.inr ⟨rfl,rfl⟩)
   rw [zby] at h1 h2
   refine ⟨st'.next,h3.next,zjR s st ?_⟩
   have hw:=wrap64 (n:=(puV (zbf 16 ((bl s).drop 2))).1) (by have:=zhg (B:=16) (l:=(bl s).drop 2);omega) (by have:=zhg (B:=16) (l:=(bl s).drop 2);omega)
   have hi:=zil 95 (mkS ((bl s).drop 2)) st'
   cases hx:(puV (zbf 16 ((bl s).drop 2))).2.isNone with
   | true=>
     rw [hx] at h2
     have hu:=zpN hx
     have hi':cc 110 [.string (mkS ((bl s).drop 2)),.int .u8 95] st'=_:=hi
     rw [zby,hu] at hi'
     simp [zfr,hcut,zar,h1,h2,hw,zd7,hh,zgQ,hx,hi']
   | false=>
     rw [hx] at h2
     simp [zfr,hcut,zar,h1,h2,hw,zd7,hh,zgQ,hx]
 | false=>
   have hh':=hh
   unfold hexP at hh'
   rw [hh'] at hcut
   obtain ⟨e,st',h1,h2,h3⟩:=zlZ (st:=st.ro st.next) (hg.ro) s hs 10 10 (.inl ⟨rfl,rfl⟩)
   refine ⟨st'.next,h3.next,zjR s st ?_⟩
   have hw:=wrap64 (n:=(puV (zbf 10 (bl s))).1) (by have:=zhg (B:=10) (l:=bl s);omega) (by have:=zhg (B:=10) (l:=bl s);omega)
   have hi:=zil 95 s st'
   cases hx:(puV (zbf 10 (bl s))).2.isNone with
   | true=>
     rw [hx] at h2
     have hu:=zpN hx
     have hi':cc 110 [.string s,.int .u8 95] st'=_:=hi
     rw [hu] at hi'
     simp [zfr,hcut,zar,h1,h2,hw,zd7,hh,zgQ,hx,hi']
   | false=>
     rw [hx] at h2
     simp [zfr,hcut,zar,h1,h2,hw,zd7,hh,zgQ,hx]
end Go.Proofs.YtifploedaacedaaGreatDoorE
namespace Go.Proofs.YtifploedaacedaaGreatDoorE
open Go Go.E Go.Proofs
structure Tok where
 kd:Nat
 tx:List UInt8
 nm:Int
 col:Nat
def zbc (at':Int) (t:Tok):List Value:=[.int .i64 t.kd,.string (mkS t.tx),.int .i64 t.nm,.int .i64 at',.int .i64 t.col]
def zcu (at':Int):List Tok→List Value
 | []=>[]
 | t::r=>zbc at' t++zcu at' r
theorem zl0 (at':Int) (a b:List Tok):zcu at' (a++b)=zcu at' a++zcu at' b:=by
 induction a with
 | nil=>rfl
 | cons t r ih=>simp [zcu,ih]
theorem zuH (at':Int) (a:List Tok):(zcu at' a).all one=true:=by
 induction a with
 | nil=>rfl
 | cons t r ih=>simp [zcu,ih,zbc,one]
inductive Stp where
 | stop | blank | bad
 | tok (kd n:Nat) (x:Int)
def numO (x:Option (Option Nat)):Option Nat:=x.getD none
def zqy (c:UInt8):Bool:=decide (0≤Lib.indexByte [58,61,46,43,45] c)
def stepT:List UInt8→Stp
 | []=>.stop
 | c::r=>if (c.toNat:Int)=59 then .stop
   else if (c.toNat:Int)=32∨(c.toNat:Int)=9∨(c.toNat:Int)=13 then .blank
   else if zep c.toNat=true then (if 24<zaU (c::r) then .bad else .tok 1 (zaU (c::r)) 0)
   else if zgg c.toNat=true then (match numO (zd7 ((c::r).take (zaU (c::r)))) with
    | some m=>.tok 2 (zaU (c::r)) m
    | none=>.bad)
   else if zqy c=true then .tok 3 1 0 else .bad
def ztj (t:Tok):Except Nat (List Tok)→Except Nat (List Tok)
 | .ok ts=>.ok (t::ts)
 | .error e=>.error e
def zew:Nat→Nat→List UInt8→Except Nat (List Tok)
 | 0,_,_=>.ok []
 | k+1,col,l=>match stepT l with
   | .stop=>.ok []
   | .blank=>zew k (col+1) (l.drop 1)
   | .tok kd n x=>ztj ⟨kd,l.take n,x,col+1⟩ (zew k (col+n) (l.drop n))
   | .bad=>.error (col+1)
structure TK (st stX:SS) (row:List Value):Prop where
 mem:stX.mem.get st.next=some (.cells row 0)
 ext:Ext st stX
 lt:st.next<stX.next
theorem TK.new {st:SS} {r row:List Value} (hl:st.lim≤st.next) (h1:row.all one=true) (hr:r.length=row.length):∃ stX,(st.new (.cells r 0)).st st.next 0 row=some stX∧TK st stX row:=by
 refine ⟨_,SS.st_cells SS.new_get hl h1 (c':=row) ?_,?_,?_,?_⟩
 ·rw [zbE (by omega)]
  simp [hr]
 ·simp
 ·exact ((Ext.refl st).new _).set (zlr _) _
 ·simp
theorem TK.st {st stX:SS} {row row' vs:List Value} {k:Nat} (h:TK st stX row) (hl:st.lim≤st.next) (h1:vs.all one=true) (hs:zc6 row k vs=some row'):∃ stY,stX.st st.next k vs=some stY∧TK st stY row'∧stY.next=stX.next:=
 ⟨_,SS.st_cells h.mem (by rw [h.ext.lim];exact hl) h1 hs,⟨by simp,h.ext.set (zlr _) _,h.lt⟩,rfl⟩
theorem TK.adv {st stX:SS} {row:List Value} {n:Nat} (h:TK st stX row) (hn:stX.next≤n):TK st (stX.adv n) row:=
 ⟨h.mem,h.ext.adv hn,zll h.lt hn⟩
theorem TK.ld {st stX:SS} {row:List Value} {k:Nat} (h:TK st stX row):stX.ld st.next k=row[k]?:=SS.ld_cells h.mem
theorem TK.ldN {st stX:SS} {row:List Value} {n:Nat} (h:TK st stX row) (hn:row.length=n):stX.ldN st.next 0 n=some (.agg row.toArray):=by
 rw [SS.ldN_cells h.mem,zgN hn];rfl
theorem zkK {row:List Value} {n:Nat} (hn:row.length=n):za0 (.agg row.toArray) n=some row:=by
 unfold za0
 have:(Value.agg row.toArray).cells=row.toArray:=rfl
 rw [this]
 simp [hn]
theorem cells5 (a b c d e:Value):za0 (.agg [a,b,c,d,e].toArray) 5=some [a,b,c,d,e]:=rfl
theorem own_ne {b:Nat} {st:SS} {v:Value} {c:List Value} {z n j:Nat} (h:Own b st v c z n) (hj:st.next≤j):∀ q,v≠.slice (some ⟨j,0,none⟩) q q:=by
 obtain ⟨_,⟨rfl,_⟩ | ⟨i,rfl,_,_,_,hi⟩⟩:=h
 ·intro q h;cases h
 ·intro q h;cases h;omega
theorem TK.app {st0 st stX:SS} {row c:List Value} {out:Value} {n z bt:Nat} (h:TK st stX row) (he:Ext st0 st) (ho:Own st0.next st out c z n) (hr:row.length=z) (hz:0<z) (hl:st0.lim≤st0.next) (h1:row.all one=true) (hs:(n+2)*bt≤2^44) (hn:n+1≤2^44):
  ∃ v st',(stX.new (.cells row z)).app z bt out (.slice (some ⟨stX.next,0,none⟩) 1 1)=some (v,st')∧Ext st0 st'∧Own st0.next st' v (c++row) z (n+1)∧st'.mem.get st.next=some (.cells row 0):=by
 have e1:Ext st (stX.new (.cells row z)):=h.ext.new _
 have e0:Ext st0 (stX.new (.cells row z)):=he.trans e1
 obtain ⟨v,st',g1,g2,g3,g4,g5,g6⟩:=(ho.ext e1).app (Rd.new1 (st:=stX) hr) e0.next (by rw [e0.lim];exact hl) hz h1 (bt:=bt) (by simpa [Nat.add_assoc] using hs) hn
 refine ⟨v,st',g1,g5 st0 (zlr _) e0,g2,?_⟩
 rw [g6 st.next (by simp;have:=h.lt;omega) (own_ne ho (zlr _)),SS.new_old (by have:=h.lt;omega)]
 exact h.mem
theorem zpc (l:List UInt8):zaU l≤l.length:=by
 unfold zaU
 exact (List.takeWhile_sublist _).length_le
theorem zkL {c:UInt8} {r:List UInt8} (h:nameB c=true):0<zaU (c::r):=by rw [zi1,if_pos h];omega
theorem zkM {s:ByteArray} {col n:Nat} (h:col+n≤s.size):zcA s (col:Int) ((col+n:Nat):Int)=some (mkS (((bl s).drop col).take n)):=by
 rw [zhe (by omega) (by omega) (by omega),zeq]
 simp only [Int.toNat_natCast]
 rw [List.drop_take,Nat.add_sub_cancel_left]
theorem zpO {s:ByteArray} {col:Nat} (h:col≤s.size):zcA s (col:Int) (s.size:Int)=some (mkS ((bl s).drop col)):=by
 rw [zhe (by omega) (by omega) (by omega),zeq]
 simp only [Int.toNat_natCast]
 rw [List.take_of_length_le (by simp)]
def ze3 (errv:Nat→List Value) (s:ByteArray) (at':Int) (st0:SS) (done:List Tok) (r:Option (Nat×List Value×SS)):Except Nat (List Tok)→Prop
 | .ok ts=>∃ v st',r=some (0,[.string s,.int .i64 at',v],st')∧Ext st0 st'∧Own st0.next st' v (zcu at' (done++ts)) 5 (done++ts).length∧(done++ts).length≤s.size
 | .error c=>∃ st',r=some (1,errv c,st')∧Ext st0 st'
theorem ze3.to {errv:Nat→List Value} {s:ByteArray} {at':Int} {st0:SS} {done:List Tok} {r r':Option (Nat×List Value×SS)} {x:Except Nat (List Tok)} (h:ze3 errv s at' st0 done r x) (hr:∀ y,r=some y→r'=some y):ze3 errv s at' st0 done r' x:=by
 cases x with
 | ok ts=>obtain ⟨v,st',a,b⟩:=h;exact ⟨v,st',hr _ a,b⟩
 | error c=>obtain ⟨st',a,b⟩:=h;exact ⟨st',hr _ a,b⟩
theorem ze3.cons {errv:Nat→List Value} {s:ByteArray} {at':Int} {st0:SS} {done:List Tok} {t:Tok} {r:Option (Nat×List Value×SS)} {x:Except Nat (List Tok)} (h:ze3 errv s at' st0 (done++[t]) r x):ze3 errv s at' st0 done r (ztj t x):=by
 cases x with
 | ok ts=>
   have e:done++[t]++ts=done++t::ts:=by simp
   obtain ⟨v,st',a,b,c,d⟩:=h
   rw [e] at c d
   exact ⟨v,st',a,b,c,d⟩
 | error c=>exact h
theorem ze3.tok {errv:Nat→List Value} {s:ByteArray} {at':Int} {st0 st stY:SS} {done:List Tok} {out:Value} {kd n col k:Nat} {x:Int} {lf:zac} (hs:s.size≤4294967296) (hl0:st0.lim≤st0.next) (hd:done.length≤col) (he:Ext st0 st) (ho:Own st0.next st out (zcu at' done) 5 done.length) (hn0:0<n) (hn:col+n≤s.size)
  (tk:TK st stY [.int .i64 kd,.string (mkS (((bl s).drop col).take n)),.int .i64 x,.int .i64 at',.int .i64 ((col+1:Nat):Int)])
  (ih:∀ (done:List Tok) (out:Value) (st:SS),done.length≤col+n→Ext st0 st→Own st0.next st out (zcu at' done) 5 done.length→ze3 errv s at' st0 done (lf 3 [.string s,.int .i64 at',out,.int .i64 ((col+n:Nat):Int)] st) (zew k (col+n) ((bl s).drop (col+n))))
  (step:∀ v stZ,(stY.new (.cells [.int .i64 kd,.string (mkS (((bl s).drop col).take n)),.int .i64 x,.int .i64 at',.int .i64 ((col+1:Nat):Int)] 5)).app 5 48 out (.slice (some ⟨stY.next,0,none⟩) 1 1)=some (v,stZ)→stZ.mem.get st.next=some (.cells [.int .i64 kd,.string (mkS (((bl s).drop col).take n)),.int .i64 x,.int .i64 at',.int .i64 ((col+1:Nat):Int)] 0)→
      ∀ y,lf 3 [.string s,.int .i64 at',v,.int .i64 ((col+n:Nat):Int)] stZ=some y→lf 3 [.string s,.int .i64 at',out,.int .i64 col] st=some y):
  ze3 errv s at' st0 done (lf 3 [.string s,.int .i64 at',out,.int .i64 col] st) (ztj ⟨kd,((bl s).drop col).take n,x,col+1⟩ (zew k (col+n) (((bl s).drop col).drop n))):=by
 obtain ⟨v,stZ,b1,b2,b3,b4⟩:=tk.app he ho rfl (by omega) hl0 (by rfl) (bt:=48) (by omega) (by omega)
 have hrow:zcu at' done++[.int .i64 kd,.string (mkS (((bl s).drop col).take n)),.int .i64 x,.int .i64 at',.int .i64 ((col+1:Nat):Int)]=zcu at' (done++[⟨kd,((bl s).drop col).take n,x,col+1⟩]):=by
  rw [zl0];rfl
 have hlen:done.length+1=(done++[(⟨kd,((bl s).drop col).take n,x,col+1⟩:Tok)]).length:=by simp
 rw [hrow,hlen] at b3
 rw [List.drop_drop]
 exact ((ih _ v stZ (by simp;omega) b2 b3).cons).to (step v stZ b1 b4)
theorem zv5 {L r:List UInt8} {c:UInt8} (h:L=c::r):stepT L=if (c.toNat:Int)=59 then .stop
  else if (c.toNat:Int)=32∨(c.toNat:Int)=9∨(c.toNat:Int)=13 then .blank
  else if zep c.toNat=true then (if 24<zaU L then .bad else .tok 1 (zaU L) 0)
  else if zgg c.toNat=true then (match numO (zd7 (L.take (zaU L))) with
   | some m=>.tok 2 (zaU L) m
   | none=>.bad)
  else if zqy c=true then .tok 3 1 0 else .bad:=by subst h;rfl
theorem zuI [Sym] (s:ByteArray) (at':Int) (hs:s.size≤4294967296) (st0:SS) (hg:Gd st0) (hl0:st0.lim≤st0.next):∀ (k col:Nat) (done:List Tok) (out:Value) (st:SS),s.size≤k+col→col≤s.size→done.length≤col→Ext st0 st→Own st0.next st out (zcu at' done) 5 done.length→
  ze3 (fun c=>[.slice none 0 0,.int .i64 c,.bool false]) s at' st0 done (zbG 3 [.string s,.int .i64 at',out,.int .i64 col] st) (zew k col ((bl s).drop col)):=by
 intro k
 induction k with
 | zero=>
   intro col done out st hk hc hd he ho
   have:col=s.size:=by omega
   subst this
   refine ⟨out,st,zbe s _ out _ st ?_,he,by simpa using ho,by simpa using hd⟩
   simp [zbH]
 | succ k ih=>
   intro col done out st hk hc hd he ho
   have hfin:∀ (stX:SS),zbG 3 [.string s,.int .i64 at',out,.int .i64 s.size] stX=some (0,[.string s,.int .i64 at',out],stX):=by
    intro stX
    refine zbe s _ out _ stX ?_
    simp [zbH]
   by_cases hlt:col<s.size
   ·obtain ⟨c,hb⟩:∃ c,(bl s)[col]?=some c:=⟨_,zge (by rw [zaV];exact hlt)⟩
    have hdc:=drop_cons hb
    have hix:(zcB s (col:Int)).bind (asI .u8)=some (c.toNat:Int):=by
     obtain ⟨b',hb',hidx⟩:=zuA (s:=s) (i:=(col:Int)) (by omega) (by omega)
     have:b'=c:=by simp at hb';rw [hb] at hb';cases hb';rfl
     subst this
     rw [hidx];simp
    have hlt':(col:Int)<(s.size:Int):=by omega
    have hw1:IntKind.wrap .i64 ((col:Int)+1)=((col+1:Nat):Int):=by rw [wrap64 (by omega) (by omega)];omega
    have hl:st.lim≤st.next:=by rw [he.lim];have:=he.next;omega
    obtain ⟨st3,e3,t3⟩:=TK.new (st:=st) (r:=[.int .i64 0,.string ⟨#[]⟩,.int .i64 0,.int .i64 0,.int .i64 0]) (row:=[.int .i64 0,.string ⟨#[]⟩,.int .i64 0,.int .i64 at',.int .i64 ((col+1:Nat):Int)]) hl (by rfl) rfl
    have he3:Ext st0 st3:=he.trans t3.ext
    have ho3:=ho.ext t3.ext
    have hL:=zv5 hdc
    have hrl:zaU ((bl s).drop col)≤s.size-col:=by
     have:=zpc ((bl s).drop col)
     simpa using this
    unfold zew
    rw [hL]
    by_cases h59:(c.toNat:Int)=59
    ·rw [if_pos h59]
     refine ⟨out,st3,zbe s _ out _ st ?_,he3,by simpa using ho3,by simp;omega⟩
     simp only [zbH,zdt hlt',zct,hw1,e3,zob,hix,zdt h59]
     exact hfin st3
    rw [if_neg h59]
    by_cases hbk:(c.toNat:Int)=32∨(c.toNat:Int)=9∨(c.toNat:Int)=13
    ·rw [if_pos hbk]
     simp only [List.drop_drop]
     refine (ih (col+1) done out st3 (by omega) (by omega) (by omega) he3 ho3).to ?_
     intro r hr
     refine zbe s _ out _ st ?_
     simp only [zbH,zdt hlt',zct,hw1,e3,zob,hix,zdf h59,zcf]
     rcases hbk with h | h | h
     ·simp only [zdt h,zct,hr]
     ·have h':¬ (c.toNat:Int)=32:=by omega
      simp only [zdt h,zct,hr,zdf h',zcf]
     ·have h':¬ (c.toNat:Int)=32:=by omega
      have h'':¬ (c.toNat:Int)=9:=by omega
      simp only [zdt h,zct,hr,zdf h',zdf h'',zcf]
    rw [if_neg hbk]
    have h32:¬ (c.toNat:Int)=32:=fun h=>hbk (.inl h)
    have h9:¬ (c.toNat:Int)=9:=fun h=>hbk (.inr (.inl h))
    have h13:¬ (c.toNat:Int)=13:=fun h=>hbk (.inr (.inr h))
    have hsub:=zpO (s:=s) (col:=col) (by omega)
    have hlet:=zi0 (c.toNat:Int)
    have hdig:=digit_ok (c.toNat:Int)
    by_cases hlt1:zep c.toNat=true
    ·rw [if_pos hlt1]
     have hpos:0<zaU ((bl s).drop col):=by rw [hdc];exact zkL (by unfold nameB;rw [hlt1];rfl)
     obtain ⟨m,hm,hrun⟩:=zhc (mkS ((bl s).drop col)) st3
     rw [zby] at hrun
     have t4:=t3.adv hm
     obtain ⟨st5,e5,t5,n5⟩:=t4.st (k:=0) (vs:=[.int .i64 1]) (row':=[.int .i64 1,.string ⟨#[]⟩,.int .i64 0,.int .i64 at',.int .i64 ((col+1:Nat):Int)]) hl (by rfl) rfl
     obtain ⟨st6,e6,t6,n6⟩:=t5.st (k:=1) (vs:=[.string (mkS (((bl s).drop col).take (zaU ((bl s).drop col))))]) (row':=[.int .i64 1,.string (mkS (((bl s).drop col).take (zaU ((bl s).drop col)))),.int .i64 0,.int .i64 at',.int .i64 ((col+1:Nat):Int)]) hl (by rfl) rfl
     have hw2:IntKind.wrap .i64 ((col:Int)+(zaU ((bl s).drop col):Nat))=((col+zaU ((bl s).drop col):Nat):Int):=by rw [wrap64 (by omega) (by omega)];omega
     have hmid:=zkM (s:=s) (col:=col) (n:=zaU ((bl s).drop col)) (by omega)
     have hsz:(mkS (((bl s).drop col).take (zaU ((bl s).drop col)))).size=zaU ((bl s).drop col):=by simp;omega
     have common:zbH cc zbG s at' out col st=cond (decide ((24:Int)<(zaU ((bl s).drop col):Nat))) (some (1,[.slice none 0 0,.int .i64 ((col+1:Nat):Int),.bool false],st6))
       ((((st6.new (.cells [.int .i64 1,.string (mkS (((bl s).drop col).take (zaU ((bl s).drop col)))),.int .i64 0,.int .i64 at',.int .i64 ((col+1:Nat):Int)] 5)).app 5 48 out (.slice (some ⟨st6.next,0,none⟩) 1 1))).bind fun r24=>zbG 3 [.string s,.int .i64 at',r24.1,.int .i64 ((col+zaU ((bl s).drop col):Nat):Int)] r24.2):=by
      simp only [zbH,zdt hlt',zct,hw1,e3,zob,hix,zdf h59,zcf,zdf h32,zdf h9,zdf h13,hlet,hlt1,zah,hsub,hrun,zaa,hw2,hmid,e5,e6,t6.ld,t6.ldN (n:=5) rfl,zgs,zgz,zad,hsz,cells5,List.append_nil]
     by_cases h24:24<zaU ((bl s).drop col)
     ·rw [if_pos h24]
      refine ⟨st6,zbe s _ out _ st ?_,he.trans t6.ext⟩
      rw [common,zdt (by omega)]
      rfl
     ·rw [if_neg h24]
      refine ze3.tok hs hl0 hd he ho hpos (by omega) t6 (fun done out st hd he ho=>ih _ done out st (by omega) (by omega) hd he ho) ?_
      intro v stZ hv _ y hy
      refine zbe s _ out _ st ?_
      rw [common,zdf (by omega),zcf]
      have hv':((st6.new (.cells [.int .i64 1,.string (mkS (((bl s).drop col).take (zaU ((bl s).drop col)))),.int .i64 0,.int .i64 at',.int .i64 ((col+1:Nat):Int)] 5)).app 5 48 out (.slice (some ⟨st6.next,0,none⟩) 1 1))=some (v,stZ):=hv
      rw [hv']
      exact hy
    rw [if_neg hlt1]
    have hlt1':zep c.toNat=false:=Bool.eq_false_iff.2 hlt1
    by_cases hd1:zgg c.toNat=true
    ·rw [if_pos hd1]
     have hpos:0<zaU ((bl s).drop col):=by rw [hdc];exact zkL (by unfold nameB;rw [hd1];simp)
     obtain ⟨m,hm,hrun⟩:=zhc (mkS ((bl s).drop col)) st3
     rw [zby] at hrun
     have t4:=t3.adv hm
     obtain ⟨st5,e5,t5,n5⟩:=t4.st (k:=0) (vs:=[.int .i64 2]) (row':=[.int .i64 2,.string ⟨#[]⟩,.int .i64 0,.int .i64 at',.int .i64 ((col+1:Nat):Int)]) hl (by rfl) rfl
     obtain ⟨st6,e6,t6,n6⟩:=t5.st (k:=1) (vs:=[.string (mkS (((bl s).drop col).take (zaU ((bl s).drop col))))]) (row':=[.int .i64 2,.string (mkS (((bl s).drop col).take (zaU ((bl s).drop col)))),.int .i64 0,.int .i64 at',.int .i64 ((col+1:Nat):Int)]) hl (by rfl) rfl
     obtain ⟨m2,hm2,hnum⟩:=zuG (hg.ext (he.trans t6.ext)) (mkS (((bl s).drop col).take (zaU ((bl s).drop col)))) (by simp;omega)
     rw [zby] at hnum
     have t7:=t6.adv hm2
     obtain ⟨st8,e8,t8,n8⟩:=t7.st (k:=2) (vs:=[.int .i64 (zgQ (zd7 (((bl s).drop col).take (zaU ((bl s).drop col))))).1]) (row':=[.int .i64 2,.string (mkS (((bl s).drop col).take (zaU ((bl s).drop col)))),.int .i64 (zgQ (zd7 (((bl s).drop col).take (zaU ((bl s).drop col))))).1,.int .i64 at',.int .i64 ((col+1:Nat):Int)]) hl (by rfl) rfl
     have hw2:IntKind.wrap .i64 ((col:Int)+(zaU ((bl s).drop col):Nat))=((col+zaU ((bl s).drop col):Nat):Int):=by rw [wrap64 (by omega) (by omega)];omega
     have hmid:=zkM (s:=s) (col:=col) (n:=zaU ((bl s).drop col)) (by omega)
     have hsz:(mkS (((bl s).drop col).take (zaU ((bl s).drop col)))).size=zaU ((bl s).drop col):=by simp;omega
     have common:zbH cc zbG s at' out col st=cond (!(zgQ (zd7 (((bl s).drop col).take (zaU ((bl s).drop col))))).2) (some (1,[.slice none 0 0,.int .i64 ((col+1:Nat):Int),.bool false],st8))
       ((((st8.new (.cells [.int .i64 2,.string (mkS (((bl s).drop col).take (zaU ((bl s).drop col)))),.int .i64 (zgQ (zd7 (((bl s).drop col).take (zaU ((bl s).drop col))))).1,.int .i64 at',.int .i64 ((col+1:Nat):Int)] 5)).app 5 48 out (.slice (some ⟨st8.next,0,none⟩) 1 1))).bind fun r24=>zbG 3 [.string s,.int .i64 at',r24.1,.int .i64 ((col+zaU ((bl s).drop col):Nat):Int)] r24.2):=by
      simp only [zbH,zdt hlt',zct,hw1,e3,zob,hix,zdf h59,zcf,zdf h32,zdf h9,zdf h13,hlet,hlt1',hdig,hd1,zah,hsub,hrun,zaa,hw2,hmid,e5,e6,t6.ld,hnum,zar,e8,t8.ld,t8.ldN (n:=5) rfl,zgs,zgz,zad,hsz,cells5,List.append_nil,List.getElem?_toArray]
     cases hx:zd7 (((bl s).drop col).take (zaU ((bl s).drop col))) with
     | some y=>cases y with
       | some w=>
         have hx2:zgQ (zd7 (((bl s).drop col).take (zaU ((bl s).drop col))))=((w:Int),true):=by rw [hx];rfl
         rw [hx2] at common t8
         simp only [numO,Option.getD_some]
         refine ze3.tok hs hl0 hd he ho hpos (by omega) t8 (fun done out st hd he ho=>ih _ done out st (by omega) (by omega) hd he ho) ?_
         intro v stZ hv _ y hy
         refine zbe s _ out _ st ?_
         rw [common,znt,zcf]
         have hv':((st8.new (.cells [.int .i64 2,.string (mkS (((bl s).drop col).take (zaU ((bl s).drop col)))),.int .i64 (w:Int),.int .i64 at',.int .i64 ((col+1:Nat):Int)] 5)).app 5 48 out (.slice (some ⟨st8.next,0,none⟩) 1 1))=some (v,stZ):=hv
         rw [hv']
         exact hy
       | none=>
         have hx2:(zgQ (zd7 (((bl s).drop col).take (zaU ((bl s).drop col))))).2=false:=by rw [hx];rfl
         rw [hx2] at common
         refine ⟨st8,zbe s _ out _ st ?_,he.trans t8.ext⟩
         rw [common]
         rfl
     | none=>
       have hx2:(zgQ (zd7 (((bl s).drop col).take (zaU ((bl s).drop col))))).2=false:=by rw [hx];rfl
       rw [hx2] at common
       refine ⟨st8,zbe s _ out _ st ?_,he.trans t8.ext⟩
       rw [common]
       rfl
    rw [if_neg hd1]
    have hd1':zgg c.toNat=false:=Bool.eq_false_iff.2 hd1
    have hsg:=zil c ⟨#[58,61,46,43,45]⟩ st3
    by_cases hs1:zqy c=true
    ·rw [if_pos hs1]
     have hs1':(0:Int)≤Lib.indexByte (bl ⟨#[58,61,46,43,45]⟩) c:=of_decide_eq_true hs1
     obtain ⟨st5,e5,t5,n5⟩:=t3.st (k:=0) (vs:=[.int .i64 3]) (row':=[.int .i64 3,.string ⟨#[]⟩,.int .i64 0,.int .i64 at',.int .i64 ((col+1:Nat):Int)]) hl (by rfl) rfl
     obtain ⟨st6,e6,t6,n6⟩:=t5.st (k:=1) (vs:=[.string (mkS (((bl s).drop col).take 1))]) (row':=[.int .i64 3,.string (mkS (((bl s).drop col).take 1)),.int .i64 0,.int .i64 at',.int .i64 ((col+1:Nat):Int)]) hl (by rfl) rfl
     have hmid:=zkM (s:=s) (col:=col) (n:=1) (by omega)
     have hsz:(mkS (((bl s).drop col).take 1)).size=1:=by simp;omega
     have hw2:IntKind.wrap .i64 ((col:Int)+((1:Nat):Int))=((col+1:Nat):Int):=hw1
     refine ze3.tok hs hl0 hd he ho (by omega) (by omega) t6 (fun done out st hd he ho=>ih _ done out st (by omega) (by omega) hd he ho) ?_
     intro v stZ hv _ y hy
     refine zbe s _ out _ st ?_
     have hv':((st6.new (.cells [.int .i64 3,.string (mkS (((bl s).drop col).take 1)),.int .i64 0,.int .i64 at',.int .i64 ((col+1:Nat):Int)] 5)).app 5 48 out (.slice (some ⟨st6.next,0,none⟩) 1 1))=some (v,stZ):=hv
     simp only [zbH,zdt hlt',zct,hw1,e3,zob,hix,zdf h59,zcf,zdf h32,zdf h9,zdf h13,hlet,hlt1',hdig,hd1',zah,hsg,zaa,zdt hs1',hmid,e5,e6,t6.ld,t6.ldN (n:=5) rfl,zgs,zgz,zad,hsz,hw2,cells5,List.append_nil,hv']
     exact hy
    ·rw [if_neg hs1]
     have hs1':¬ (0:Int)≤Lib.indexByte (bl ⟨#[58,61,46,43,45]⟩) c:=fun h=>hs1 (zdt h)
     refine ⟨st3,zbe s _ out _ st ?_,he3⟩
     simp only [zbH,zdt hlt',zct,hw1,e3,zob,hix,zdf h59,zcf,zdf h32,zdf h9,zdf h13,hlet,hlt1',hdig,hd1',zah,hsg,zaa,zdf hs1',t3.ld,zgs,zgz]
   ·have:col=s.size:=by omega
    subst this
    have hnil:(bl s).drop s.size=[]:=zmZ s
    rw [hnil]
    exact ⟨out,st,hfin st,he,by simpa [stepT] using ho,by simpa using hd⟩
end Go.Proofs.YtifploedaacedaaGreatDoorE
namespace Go.Proofs.YtifploedaacedaaGreatDoorE
open Go Go.E Go.Proofs
def zgR (l:List UInt8):Tok:=⟨0,[],0,l.length+1⟩
def zds (l:List UInt8):Except Nat (List Tok):=match zew l.length 0 l with
 | .ok ts=>.ok (ts++[zgR l])
 | .error c=>.error c
def LineR (okv:Value→List Value) (errv:Nat→List Value) (s:ByteArray) (at':Int) (st:SS) (r:Option (Value×SS)):Except Nat (List Tok)→Prop
 | .ok ts=>∃ v st',r=some (.tuple (okv v).toArray,st')∧Ext st st'∧Own st.next st' v (zcu at' ts) 5 ts.length∧ts.length≤s.size+1
 | .error c=>∃ st',r=some (.tuple (errv c).toArray,st')∧Ext st st'
theorem zxj {st st':SS} {v:Value} {at':Int} {ts:List Tok} (s:ByteArray) (hs:s.size≤4294967296) (hl:st.lim≤st.next) (he:Ext st st') (ho:Own st.next st' v (zcu at' ts) 5 ts.length) (hn:ts.length≤s.size):
  ∃ w st'',(st'.new (.cells [.int .i64 0,.string ⟨#[]⟩,.int .i64 0,.int .i64 at',.int .i64 ((s.size+1:Nat):Int)] 5)).app 5 48 v (.slice (some ⟨st'.next,0,none⟩) 1 1)=some (w,st'')∧Ext st st''∧
   Own st.next st'' w (zcu at' (ts++[zgR (bl s)])) 5 (ts++[zgR (bl s)]).length∧(ts++[zgR (bl s)]).length≤s.size+1:=by
 have e0:Ext st (st'.new (.cells [.int .i64 0,.string ⟨#[]⟩,.int .i64 0,.int .i64 at',.int .i64 ((s.size+1:Nat):Int)] 5)):=he.new _
 obtain ⟨w,st'',g1,g2,g3,g4,g5,g6⟩:=(ho.ext ((Ext.refl st').new (.cells [.int .i64 0,.string ⟨#[]⟩,.int .i64 0,.int .i64 at',.int .i64 ((s.size+1:Nat):Int)] 5))).app (Rd.new1 (st:=st') rfl) e0.next (by rw [e0.lim];exact hl) (by omega) (by rfl) (bt:=48) (by omega) (by omega)
 refine ⟨w,st'',g1,g5 st (zlr _) e0,?_,by simp;omega⟩
 have e1:zcu at' (ts++[zgR (bl s)])=zcu at' ts++[.int .i64 0,.string ⟨#[]⟩,.int .i64 0,.int .i64 at',.int .i64 ((s.size+1:Nat):Int)]:=by
  rw [zl0]
  show _++(zbc at' (zgR (bl s))++[])=_
  simp [zbc,zgR,mkS]
 rw [e1,List.length_append]
 exact g2
theorem zxk [Sym] {st:SS} (hg:Gd st) (hl:st.lim≤st.next) (s:ByteArray) (hs:s.size≤4294967296) (at':Int):
  LineR (fun v=>[v,.int .i64 0,.bool true]) (fun c=>[.slice none 0 0,.int .i64 c,.bool false]) s at' st (cc 90 [.string s,.int .i64 at'] st) (zds (bl s)):=by
 have h:=zuI s at' hs st hg hl s.size 0 [] (.slice none 0 0) st (by omega) (by omega) (by simp) (.refl _) (Own.nil _ _ _)
 simp only [List.drop_zero] at h
 have hw:IntKind.wrap .i64 ((s.size:Int)+1)=((s.size+1:Nat):Int):=by rw [wrap64 (by omega) (by omega)];omega
 unfold zds
 rw [zaV]
 cases hx:zew s.size 0 (bl s) with
 | ok ts=>
   rw [hx] at h
   obtain ⟨v,st',a,b,c,d⟩:=h
   obtain ⟨w,st'',e1,e2,e3,e4⟩:=zxj s hs hl b c d
   refine ⟨w,st'',zlW s at' st ?_,e2,e3,e4⟩
   have a':zbG 3 [.string s,.int .i64 at',.slice none 0 0,.int .i64 0] st=some (0,[.string s,.int .i64 at',v],st'):=a
   have hb0:Nat.beq 0 0=true:=rfl
   simp only [zlV,a',zob,hb0,zct,zgs,zgz,zad,zaa,hw,e1]
 | error c=>
   rw [hx] at h
   obtain ⟨st',a,b⟩:=h
   refine ⟨st',zlW s at' st ?_,b⟩
   have a':zbG 3 [.string s,.int .i64 at',.slice none 0 0,.int .i64 0] st=some (1,[.slice none 0 0,.int .i64 c,.bool false],st'):=a
   have hb0:Nat.beq 1 0=false:=rfl
   simp only [zlV,a',zob,hb0,zcf,zgs,zgz,zah,zaa]
end Go.Proofs.YtifploedaacedaaGreatDoorE
namespace Go.Proofs.YtifploedaacedaaGreatDoorE
open Go Go.E Go.Proofs
def rowsL:List (Nat×Tok)→List Value
 | []=>[]
 | t::r=>zbc t.1 t.2++rowsL r
theorem zq6 (a b:List (Nat×Tok)):rowsL (a++b)=rowsL a++rowsL b:=by
 induction a with
 | nil=>rfl
 | cons t r ih=>simp [rowsL,ih]
theorem zuJ (i:Nat) (ts:List Tok):rowsL (ts.map fun t=>(i,t))=zcu i ts:=by
 induction ts with
 | nil=>rfl
 | cons t r ih=>simp [rowsL,zcu,ih]
def ztk (a:List (Nat×Tok)):Except (Nat×Nat) (List (Nat×Tok))→Except (Nat×Nat) (List (Nat×Tok))
 | .ok us=>.ok (a++us)
 | .error e=>.error e
def zg4:Nat→List (List UInt8)→Except (Nat×Nat) (List (Nat×Tok))
 | _,[]=>.ok []
 | i,p::r=>match zds p with
   | .error c=>.error (i+1,c)
   | .ok ts=>ztk (ts.map fun t=>(i+1,t)) (zg4 (i+1) r)
def lexT (l:List UInt8):Except (Nat×Nat) (List (Nat×Tok)):=zg4 0 (pieces 10 l)
theorem zkN (c:UInt8) (l:List UInt8):∀ p∈pieces c l,p.length≤l.length:=by
 induction l with
 | nil=>simp [pieces]
 | cons b r ih=>
   unfold pieces
   split
   ·intro p hp
    simp only [List.mem_cons] at hp
    rcases hp with rfl | hp
    ·simp
    ·have:=ih p hp;simp;omega
   ·cases hr:pieces c r with
    | nil=>exact absurd hr (zfV c r)
    | cons x y=>
      intro p hp
      simp only [List.mem_cons] at hp
      rcases hp with rfl | hp
      ·have:=ih x (by rw [hr];simp);simp;omega
      ·have:=ih p (by rw [hr];simp [hp]);simp;omega
def zim (errv:List Value) (j:Nat) (st0 st1:SS) (done:List (Nat×Tok)) (r:Option (Nat×List Value×SS)):Except (Nat×Nat) (List (Nat×Tok))→Prop
 | .ok us=>∃ v st',r=some (0,[ptr j 0,v],st')∧Ext st1 st'∧Own st1.next st' v (rowsL (done++us)) 5 (done++us).length
 | .error e=>∃ st',r=some (1,errv,st')∧st'.mem.get j=some (.cells [.int .i64 e.1,.int .i64 e.2] 0)∧Ext st0 st'
theorem zim.to {errv:List Value} {j:Nat} {st0 st1:SS} {done:List (Nat×Tok)} {r r':Option (Nat×List Value×SS)} {x:Except (Nat×Nat) (List (Nat×Tok))} (h:zim errv j st0 st1 done r x) (hr:∀ y,r=some y→r'=some y):zim errv j st0 st1 done r' x:=by
 cases x with
 | ok ts=>obtain ⟨v,st',a,b⟩:=h;exact ⟨v,st',hr _ a,b⟩
 | error c=>obtain ⟨st',a,b⟩:=h;exact ⟨st',hr _ a,b⟩
theorem zim.cons {errv:List Value} {j:Nat} {st0 st1:SS} {done a:List (Nat×Tok)} {r:Option (Nat×List Value×SS)} {x:Except (Nat×Nat) (List (Nat×Tok))} (h:zim errv j st0 st1 (done++a) r x):zim errv j st0 st1 done r (ztk a x):=by
 cases x with
 | ok ts=>
   have e:done++a++ts=done++(a++ts):=by simp
   obtain ⟨v,st',p,b,c⟩:=h
   rw [e] at c
   exact ⟨v,st',p,b,c⟩
 | error c=>exact h
theorem strs_get (ps:List (List UInt8)) (i:Nat) (p:List UInt8) (h:ps[i]?=some p):((strs ps).drop (i*1)).take 1=[.string (mkS p)]:=by
 rw [Nat.mul_one]
 have:(strs ps)[i]?=some (.string (mkS p)):=by simp [strs,h]
 rw [drop_cons this]
 rfl
theorem zim.add {errv:List Value} {j:Nat} {st0 st1 st st':SS} {done:List (Nat×Tok)} {ts:List Tok} {i N:Nat} {out v:Value} {x:Except (Nat×Nat) (List (Nat×Tok))} {r':Option (Nat×List Value×SS)}
  (hN:N≤131073) (hl1:st1.lim≤st1.next) (hi:i<N) (hd:done.length≤i*N) (hts:ts.length≤N) (he:Ext st1 st) (ho:Own st1.next st out (rowsL done) 5 done.length) (he2:Ext st st') (ho2:Own st.next st' v (zcu ((i+1:Nat):Int) ts) 5 ts.length)
  (h:∀ w st'',st'.app 5 48 out v=some (w,st'')→Ext st1 st''→Own st1.next st'' w (rowsL (done++ts.map fun t=>(i+1,t))) 5 (done++ts.map fun t=>(i+1,t)).length→(done++ts.map fun t=>(i+1,t)).length≤(i+1)*N→zim errv j st0 st1 (done++ts.map fun t=>(i+1,t)) r' x):
  zim errv j st0 st1 done r' (ztk (ts.map fun t=>(i+1,t)) x):=by
 have hmul:i*N≤131073*131073:=Nat.mul_le_mul (by omega) hN
 have e0:Ext st1 st':=he.trans he2
 have hN2:(i+1)*N=i*N+N:=by rw [Nat.add_mul,Nat.one_mul]
 have hN3:i*N+N≤131073*131073:=by rw [← hN2];exact Nat.mul_le_mul (by omega) hN
 obtain ⟨w,st'',g1,g2,g3,g4,g5,g6⟩:=(ho.ext he2).app (ho2.rd) e0.next (by rw [e0.lim];exact hl1) (by omega) (zuH _ _) (bt:=48) (by omega) (by omega)
 refine (h w st'' g1 (g5 st1 (zlr _) e0) ?_ ?_).cons
 ·rw [zq6,zuJ,List.length_append,List.length_map]
  exact g2
 ·rw [List.length_append,List.length_map,hN2];omega
theorem zv6 [Sym] (st0 st1:SS) (hg:Gd st1) (h01:Ext st0 st1) (hl1:st1.lim≤st1.next) (j:Nat) (hj0:st0.next≤j) (hj1:j<st1.next) (hjm:∃ r,st1.mem.get j=some (.cells r 0)∧r.length=2) (hjl:st1.lim≤j) (all:List (List UInt8)) (v:Value) (hv:Rd st1 v (strs all) 1 all.length) (N:Nat) (hN:N≤131073) (hall:all.length≤N) (hmem:∀ p∈all,p.length+1≤N):
  ∀ (ps:List (List UInt8)) (i:Nat) (done:List (Nat×Tok)) (out:Value) (st:SS),all.drop i=ps→i≤all.length→done.length≤i*N→Ext st1 st→Own st1.next st out (rowsL done) 5 done.length→
  zim [.slice none 0 0,ptr j 0,.int .i64 4] j st0 st1 done (zer 5 [ptr j 0,out,v,.int .i64 all.length,.int .i64 i] st) (zg4 i ps):=by
 intro ps
 induction ps with
 | nil=>
   intro i done out st hp hi hd he ho
   have:i=all.length:=by
    rw [List.drop_eq_nil_iff] at hp;omega
   subst this
   refine ⟨out,st,zgP _ out v _ _ st ?_,he,by simpa using ho⟩
   simp [zg3]
 | cons p r ih=>
   intro i done out st hp hi hd he ho
   have hgp:all[i]?=some p:=by
    have:=congrArg (·[0]?) hp
    simpa using this
   have hlt:i<all.length:=(List.getElem?_eq_some_iff.1 hgp).1
   have hpm:p∈all:=zmg hgp
   have hpl:=hmem p hpm
   have hr:all.drop (i+1)=r:=by
    have:=drop_cons hgp
    rw [hp] at this
    exact (List.cons.inj this).2.symm
   have hlt':(i:Int)<(all.length:Int):=by omega
   have hw:IntKind.wrap .i64 ((i:Int)+1)=((i+1:Nat):Int):=by rw [wrap64 (by omega) (by omega)];omega
   obtain ⟨q,hq1,hq2,hq3⟩:=(hv.ext he).load (j:=(i:Int)) (by omega) hlt' (strs_get all i p hgp) rfl
   have hld:(st.ld q.1 q.2).bind asS=some (mkS p):=by
    have:=hq3 0 (by omega)
    rw [Nat.add_zero] at this
    rw [this];rfl
   have hl:st.lim≤st.next:=by rw [he.lim];have:=he.next;omega
   have h:=zxk (hg.ext he) hl (mkS p) (by simp;omega) ((i+1:Nat):Int)
   rw [zby] at h
   unfold zg4
   cases hx:zds p with
   | error c=>
     rw [hx] at h
     obtain ⟨st',a,b⟩:=h
     obtain ⟨r0,hjm1,hjm2⟩:=hjm
     have e0:=he.trans b
     have hst:st'.st j 0 [.int .i64 ((i+1:Nat):Int),.int .i64 c]=some (st'.set j (some (.cells [.int .i64 ((i+1:Nat):Int),.int .i64 c] 0))):=
      SS.st_cells (e0.get hj1 hjm1) (by rw [e0.lim];exact hjl) (by rfl) (by rw [zbE (by simp [hjm2])];simp [hjm2])
     refine ⟨st'.set j (some (.cells [.int .i64 ((i+1:Nat):Int),.int .i64 c] 0)),zgP _ out v _ _ st ?_,by simp,(h01.trans e0).set hj0 _⟩
     simp only [zg3,zdt hlt',zct,hq1,zob,hld,hw,a,zar,List.getElem?_toArray,zgs,zgz,zaa,zah,znf,zab,hst]
   | ok ts=>
     rw [hx] at h
     obtain ⟨w,st',a,b,c,d⟩:=h
     refine zim.add hN hl1 (by omega) hd (by simp at d;omega) he ho b c ?_
     intro u st'' g1 g2 g3 g4
     refine (ih (i+1) _ u st'' hr (by omega) g4 g2 g3).to ?_
     intro y hy
     refine zgP _ out v _ _ st ?_
     simp only [zg3,zdt hlt',zct,hq1,zob,hld,hw,a,zar,List.getElem?_toArray,zgs,zgz,zaa,zah,znt,zcf,g1]
     exact hy
def LexR (okv:Value→Nat×Nat→List Value) (errv:Nat×Nat→List Value) (st:SS) (r:Option (Value×SS)):Except (Nat×Nat) (List (Nat×Tok))→Prop
 | .ok us=>∃ v st',r=some (.tuple (okv v (0,0)).toArray,st')∧Ext st st'∧Own st.next st' v (rowsL us) 5 us.length
 | .error e=>∃ st',r=some (.tuple (errv e).toArray,st')∧Ext st st'
def zbT (e:Nat×Nat):Value:=.agg #[.int .i64 e.1,.int .i64 e.2]
theorem rdN2 {st:SS} {j:Nat} {a b:Value} {z:Nat} (h:st.mem.get j=some (.cells [a,b] z)):st.rdN j 0 2=some (.agg #[a,b]):=by
 rw [SS.rdN_cells h,zgN (n:=2) rfl];rfl
theorem lex_ok [Sym] {st:SS} (hg:Gd st) (hl:st.lim≤st.next) (s:ByteArray) (hs:s.size≤131072):
  LexR (fun v e=>[v,zbT e,.int .i64 0]) (fun e=>[.slice none 0 0,zbT e,.int .i64 4]) st (cc 67 [.string s] st) (lexT (bl s)):=by
 obtain ⟨v,st2,h1,h2,h3⟩:=split_ok s 10 (by omega) (st.new (.cells [.int .i64 0,.int .i64 0] 0)) (by simp;omega)
 have hst1:(st.new (.cells [.int .i64 0,.int .i64 0] 0)).mem.get st.next=some (.cells [.int .i64 0,.int .i64 0] 0):=by simp
 have e01:Ext st st2:=((Ext.refl st).new _).trans h2
 have hm:=h2.get (by simp) hst1
 have hj1:st.next<st2.next:=by have:=h2.next;simp at this;omega
 have hl2:st2.lim≤st2.next:=by rw [e01.lim];have:=e01.next;omega
 have hlen:=pieces_len 10 (bl s)
 rw [zaV] at hlen
 have hmem:=zkN 10 (bl s)
 rw [zaV] at hmem
 have h:=zv6 st st2 (hg.ext e01) e01 hl2 st.next (zlr _) hj1 ⟨_,hm,rfl⟩ (by rw [e01.lim];exact hl) (pieces 10 (bl s)) v h3 (s.size+1) (by omega) hlen (fun p hp=>by have:=hmem p hp;omega) (pieces 10 (bl s)) 0 [] (.slice none 0 0) st2 rfl (by omega) (by simp) (.refl _) (Own.nil _ _ _)
 have hbig:¬ (131072:Int)<(s.size:Int):=by omega
 have hb0:Nat.beq 0 0=true:=rfl
 have hb1:Nat.beq 1 0=false:=rfl
 have hlv:(lenV v).bind (asI .i64)=some ((pieces 10 (bl s)).length:Int):=by rw [h3.len];rfl
 unfold lexT
 cases hx:zg4 0 (pieces 10 (bl s)) with
 | ok us=>
   rw [hx] at h
   obtain ⟨w,st3,a,b,c⟩:=h
   have hm3:=b.get hj1 hm
   have hst:st3.st st.next 0 [.int .i64 0,.int .i64 0]=some (st3.set st.next (some (.cells [.int .i64 0,.int .i64 0] 0))):=
    SS.st_cells hm3 (by rw [b.lim,e01.lim];exact hl) (by rfl) (by rfl)
   have hlast:Ext st (st3.set st.next (some (.cells [.int .i64 0,.int .i64 0] 0))):=(e01.trans b).set (zlr _) _
   refine ⟨w,st3.set st.next (some (.cells [.int .i64 0,.int .i64 0] 0)),zm4 s st ?_,hlast,?_⟩
   ·have a':zer 5 [ptr st.next 0,.slice none 0 0,v,.int .i64 ((pieces 10 (bl s)).length:Int),.int .i64 0] st2=some (0,[ptr st.next 0,w],st3):=a
    have hr:=rdN2 (a:=.int .i64 0) (b:=.int .i64 0) (z:=0) (st:=st3.set st.next (some (.cells [.int .i64 0,.int .i64 0] 0))) (j:=st.next) (by simp)
    simp only [znA,zdf hbig,zcf,h1,zob,hlv,a',hb0,zct,zgs,zgz,zab,hst,hr]
    rfl
   ·obtain ⟨c1,c2⟩:=c
    refine ⟨c1,c2.imp id ?_⟩
    rintro ⟨i,e,h0,hmi,hbi,hi⟩
    refine ⟨i,e,h0,?_,by omega,hi⟩
    rw [SS.set_old (by omega)]
    exact hmi
 | error e=>
   rw [hx] at h
   obtain ⟨st3,a,b,c⟩:=h
   refine ⟨st3,zm4 s st ?_,c⟩
   have a':zer 5 [ptr st.next 0,.slice none 0 0,v,.int .i64 ((pieces 10 (bl s)).length:Int),.int .i64 0] st2=some (1,[.slice none 0 0,ptr st.next 0,.int .i64 4],st3):=a
   simp only [znA,zdf hbig,zcf,h1,zob,hlv,a',hb1,zct,zgs,zgz,zab,zaa,rdN2 b]
   rfl
end Go.Proofs.YtifploedaacedaaGreatDoorE
namespace Go.Proofs.YtifploedaacedaaGreatDoorE
open Go Go.E Go.Proofs
theorem TK.newV {st:SS} {r:List Value} {v:Value} {n:Nat} (hl:st.lim≤st.next) (h1:v.cells.toList.all one=true) (hn:v.cells.size=n) (hr:r.length=n):∃ stX,(st.new (.cells r 0)).stV st.next 0 n v=some stX∧TK st stX v.cells.toList:=by
 obtain ⟨stX,h,t⟩:=TK.new (st:=st) (r:=r) (row:=v.cells.toList) hl h1 (by simp [hr,hn])
 refine ⟨stX,?_,t⟩
 unfold SS.stV
 have:Nat.beq v.cells.size n=true:=by rw [zat,hn];simp
 rw [this]
 exact h
theorem TK.pair {st:SS} {r:List Value} (e:Nat×Nat) (hl:st.lim≤st.next) (hr:r.length=2):∃ stX,(st.new (.cells r 0)).stV st.next 0 2 (zbT e)=some stX∧TK st stX [.int .i64 e.1,.int .i64 e.2]:=TK.newV (v:=zbT e) hl (by rfl) rfl hr
theorem zi3 (us:List (Nat×Tok)) (i:Nat) (t:Nat×Tok) (h:us[i]?=some t):((rowsL us).drop (i*5)).take 5=zbc t.1 t.2:=by
 induction us generalizing i with
 | nil=>simp at h
 | cons a r ih=>
   cases i with
   | zero=>
     simp at h
     subst h
     show ((zbc a.1 a.2++rowsL r).drop (0*5)).take 5=_
     rfl
   | succ i=>
     have:=ih i (by simpa using h)
     show ((zbc a.1 a.2++rowsL r).drop ((i+1)*5)).take 5=_
     have e:(i+1)*5=(zbc a.1 a.2).length+i*5:=by simp [zbc];omega
     rw [e,← List.drop_drop,List.drop_left]
     exact this
theorem zuK (ps:List (List UInt8)) (i N:Nat) (us:List (Nat×Tok)) (h:zg4 i ps=.ok us) (hN:∀ p∈ps,∀ ts,zds p=.ok ts→ts.length≤N):us.length≤ps.length*N:=by
 induction ps generalizing i us with
 | nil=>cases h;simp
 | cons p r ih=>
   unfold zg4 at h
   cases hx:zds p with
   | error c=>rw [hx] at h;cases h
   | ok ts=>
     rw [hx] at h
     cases hy:zg4 (i+1) r with
     | error e=>rw [hy] at h;cases h
     | ok vs=>
       rw [hy] at h
       cases h
       have h1:=ih (i+1) vs hy (fun q hq=>hN q (List.mem_cons_of_mem _ hq))
       have h2:=hN p (List.mem_cons_self ..) ts hx
       rw [List.length_append,List.length_map,List.length_cons,Nat.add_mul]
       omega
theorem zv7 (k col:Nat) (l:List UInt8) (ts:List Tok) (h:zew k col l=.ok ts):ts.length≤k:=by
 induction k generalizing col l ts with
 | zero=>cases h;simp
 | succ k ih=>
   unfold zew at h
   split at h
   ·cases h;simp
   ·have:=ih _ _ _ h;omega
   ·rename_i kd n x _
    cases hx:zew k (col+n) (l.drop n) with
    | error e=>rw [hx] at h;cases h
    | ok us=>rw [hx] at h;cases h;have:=ih _ _ _ hx;simp;omega
   ·cases h
theorem zpP (p:List UInt8) (ts:List Tok) (h:zds p=.ok ts):ts.length≤p.length+1:=by
 unfold zds at h
 split at h
 ·rename_i us hu;cases h;have:=zv7 _ _ _ _ hu;simp;omega
 ·cases h
theorem zv8 (l:List UInt8) (us:List (Nat×Tok)) (h:lexT l=.ok us):us.length≤(l.length+1)*(l.length+1):=by
 have h1:=zuK (pieces 10 l) 0 (l.length+1) us h (fun p hp ts hts=>by have:=zkN 10 l p hp;have:=zpP p ts hts;omega)
 exact zlt h1 (Nat.mul_le_mul_right _ (pieces_len 10 l))
theorem zdP (l:List UInt8):eqT (mkS l) ⟨#[]⟩=decide (l=[]):=rfl
theorem zes {s:ByteArray} {j:Nat} {b:UInt8} (hb:(bl s)[j]?=some b):(zcB s (j:Int)).bind (asI .u8)=some (b.toNat:Int):=by
 have hj:j<s.size:=by have:=(List.getElem?_eq_some_iff.1 hb).1;rwa [zaV] at this
 obtain ⟨b',hb',hidx⟩:=zuA (s:=s) (i:=(j:Int)) (by omega) (by omega)
 rw [Int.toNat_natCast,hb] at hb'
 cases hb'
 rw [hidx];simp
theorem zgi (c x:UInt8) (l:List UInt8):pieces c (x::l)=if x=c then []::pieces c l else match pieces c l with
  | []=>[[x]]
  | y::z=>(x::y)::z:=rfl
theorem zrS {α:Type} {l:List α} {j:Nat} {x:α} (h:l[j]?=some x):l.take (j+1)=l.take j++[x]:=by
 rw [List.take_add_one,h];rfl
end Go.Proofs.YtifploedaacedaaGreatDoorE
namespace Go.Proofs.YtifploedaacedaaGreatDoorE
open Go Go.E Go.Proofs
def blankB (b:UInt8):Prop:=(b.toNat:Int)=32∨(b.toNat:Int)=9∨(b.toNat:Int)=13
theorem zos (c:UInt8) (r:List UInt8):stepT (c::r)=if (c.toNat:Int)=59 then .stop
  else if (c.toNat:Int)=32∨(c.toNat:Int)=9∨(c.toNat:Int)=13 then .blank
  else if zep c.toNat=true then (if 24<zaU (c::r) then .bad else .tok 1 (zaU (c::r)) 0)
  else if zgg c.toNat=true then (match numO (zd7 ((c::r).take (zaU (c::r)))) with
   | some m=>.tok 2 (zaU (c::r)) m
   | none=>.bad)
  else if zqy c=true then .tok 3 1 0 else .bad:=rfl
theorem zuL {l:List UInt8} {kd n:Nat} {x:Int} (h:stepT l=.tok kd n x):0<n∧n≤l.length∧(kd=1∨kd=2∨kd=3):=by
 cases l with
 | nil=>cases h
 | cons c r=>
   rw [zos] at h
   split at h
   ·cases h
   ·split at h
    ·cases h
    ·split at h
     ·rename_i hlet
      split at h
      ·cases h
      ·cases h
       exact ⟨zkL (by unfold nameB;rw [hlet];rfl),zpc _,.inl rfl⟩
     ·split at h
      ·rename_i hdig
       split at h
       ·cases h
        exact ⟨zkL (by unfold nameB;rw [hdig];simp),zpc _,.inr (.inl rfl)⟩
       ·cases h
      ·split at h
       ·cases h
        exact ⟨by omega,by simp,.inr (.inr rfl)⟩
       ·cases h
def View (c:Nat) (l:List UInt8) (ts:List Tok):Prop:=
 ∃ m,(∀ j b,j<m→l[j]?=some b→blankB b)∧((ts=[]∧m≤l.length∧∀ b,l[m]?=some b→(b.toNat:Int)=59)∨
  ∃ n kd x k' ts',m+n≤l.length∧0<n∧(kd=1∨kd=2∨kd=3)∧ts=⟨kd,(l.drop m).take n,x,c+m+1⟩::ts'∧(l.drop (m+n)).length≤k'∧zew k' (c+m+n) (l.drop (m+n))=.ok ts')
end Go.Proofs.YtifploedaacedaaGreatDoorE
namespace Go.Proofs.YtifploedaacedaaGreatDoorE
open Go Go.E Go.Proofs
structure Val where
 nm:List UInt8
 x:Int
 col:Nat
structure Pr where
 fd:List UInt8
 col:Nat
 v:Val
structure PLine where
 ln:Nat
 lab:List UInt8
 dir:List UInt8
 args:List Val
 prs:List Pr
def zaO (t:Tok) (s:List UInt8):Bool:=decide (t.kd=3)&&decide (t.tx=s)
def ze4:List Tok→Except Nat (Val×Nat)
 | []=>.error 0
 | t::r=>if t.kd=2 then .ok (⟨[],t.nm,t.col⟩,1) else if t.kd=1 then (match r with
   | []=>.error 0
   | s::u=>if zaO s [43]=true then (match u with
     | n::_=>if n.kd=2 then .ok (⟨t.tx,n.nm,t.col⟩,3) else .error 2
     | []=>.error 2)
     else if zaO s [45]=true then (match u with
      | n::_=>if n.kd=2 then .ok (⟨t.tx, -n.nm,t.col⟩,3) else .error 2
      | []=>.error 2)
     else .ok (⟨t.tx,0,t.col⟩,1)) else .error 0
def zd8:Nat→List Tok→Except Nat (List Val)
 | 0,_=>.ok []
 | _+1,[]=>.ok []
 | k+1,t::r=>if t.kd=0 then .ok [] else match ze4 (t::r) with
   | .error o=>.error o
   | .ok (v,n)=>match zd8 k ((t::r).drop n) with
     | .error o=>.error (n+o)
     | .ok vs=>.ok (v::vs)
def pairT (seen:List (List UInt8)):List Tok→Except Nat (Pr×Nat)
 | []=>.error 0
 | t::r=>if t.kd=1∧t.tx∉seen then (match r with
   | []=>.error 1
   | e::u=>if zaO e [61]=true then (match ze4 u with
     | .error o=>.error (2+o)
     | .ok (v,n)=>.ok (⟨t.tx,t.col,v⟩,2+n)) else .error 1)
   else .error 0
def zbI:Nat→List (List UInt8)→List Tok→Except Nat (List Pr)
 | 0,_,_=>.ok []
 | _+1,_,[]=>.ok []
 | k+1,seen,t::r=>if t.kd=0 then .ok [] else match pairT seen (t::r) with
   | .error o=>.error o
   | .ok (p,n)=>match zbI k (seen++[p.fd]) ((t::r).drop n) with
     | .error o=>.error (n+o)
     | .ok ps=>.ok (p::ps)
def zdI (lab:List UInt8):List Tok→Except Nat PLine
 | []=>.error 0
 | t::r=>if zaO t [46]=true then (match r with
   | []=>.error 1
   | d::u=>if d.kd=1 then (match zd8 u.length u with
     | .error o=>.error (2+o)
     | .ok vs=>.ok ⟨0,lab,d.tx,vs,[]⟩) else .error 1)
   else match zbI (t::r).length [] (t::r) with
    | .error o=>.error o
    | .ok ps=>.ok ⟨0,lab,[],[],ps⟩
def readT:List Tok→Except Nat PLine
 | t::s::r=>if t.kd=1∧zaO s [58]=true then (match zdI t.tx r with
   | .error o=>.error (2+o)
   | .ok x=>.ok x) else zdI [] (t::s::r)
 | l=>zdI [] l
def ztl (l:List Tok) (o:Nat):Nat:=((l[o]?).map (·.col)).getD 0
def zdQ:Nat→List (List Tok)→Except (Nat×Nat) (List PLine)
 | _,[]=>.ok []
 | i,ts::r=>match readT ts with
   | .error o=>.error (i+1,ztl ts o)
   | .ok x=>match zdQ (i+1) r with
     | .error e=>.error e
     | .ok xs=>.ok (if 1<ts.length then { x with ln:=i+1 }::xs else xs)
def zdu:Nat→List (List UInt8)→Except (Nat×Nat) (List (List Tok))
 | _,[]=>.ok []
 | i,p::r=>match zds p with
   | .error c=>.error (i+1,c)
   | .ok ts=>match zdu (i+1) r with
     | .error e=>.error e
     | .ok tss=>.ok (ts::tss)
def zkO (l:List UInt8):Except (Nat×Nat) (List PLine):=match zdu 0 (pieces 10 l) with
 | .error e=>.error e
 | .ok tss=>zdQ 0 tss
def flat:Nat→List (List Tok)→List (Nat×Tok)
 | _,[]=>[]
 | i,ts::r=>ts.map (fun t=>(i+1,t))++flat (i+1) r
theorem ztm (ps:List (List UInt8)) (i:Nat):zg4 i ps=match zdu i ps with
  | .error e=>.error e
  | .ok tss=>.ok (flat i tss):=by
 induction ps generalizing i with
 | nil=>rfl
 | cons p r ih=>
   unfold zg4 zdu
   cases hx:zds p with
   | error c=>rfl
   | ok ts=>
     simp only
     rw [ih (i+1)]
     cases hy:zdu (i+1) r with
     | error e=>rfl
     | ok tss=>rfl
def Lin:List Tok→Prop
 | []=>False
 | t::r=>(t.kd=0∧r=[])∨(t.kd≠0∧Lin r)
theorem Lin.tail {t:Tok} {r:List Tok} (h:Lin (t::r)) (hk:t.kd≠0):Lin r:=h.elim (fun x=>absurd x.1 hk) (·.2)
theorem Lin.last {t:Tok} {r:List Tok} (h:Lin (t::r)) (hk:t.kd=0):r=[]:=h.elim (·.2) fun x=>absurd hk x.1
theorem Lin.ne {r:List Tok} (h:Lin r):∃ t u,r=t::u:=by
 cases r with
 | nil=>exact h.elim
 | cons t u=>exact ⟨t,u,rfl⟩
structure TokOk (t:Tok):Prop where
 kd:t.kd≤3
 tx:t.kd=1→t.tx≠[]
 nm0:0≤t.nm
 nm1:t.nm≤2147483647
theorem ztn {l:List UInt8} {m:Nat} (h:numO (zd7 l)=some m):m≤2147483647:=by
 have key:∀ B q,numO (zbf B q)=some m→m≤2147483647:=by
  intro B q h
  have hr:=zhg (B:=B) (l:=q)
  cases hp:zbf B q with
  | none=>rw [hp] at h;cases h
  | some x=>cases x with
    | none=>rw [hp] at h;cases h
    | some k=>
      rw [hp] at h hr
      have:k=m:=by injection h
      subst this
      simp only [puV] at hr
      omega
 unfold zd7 at h
 split at h
 ·exact key _ _ h
 ·exact key _ _ h
theorem zv9 {l:List UInt8} {kd n:Nat} {x:Int} {c:Nat} (h:stepT l=.tok kd n x):TokOk ⟨kd,l.take n,x,c⟩∧kd≠0:=by
 obtain ⟨h1,h2,h3⟩:=zuL h
 have hne:l.take n≠[]:=by
  intro e
  have:=congrArg List.length e
  rw [List.length_take] at this
  simp at this
  rcases this with rfl | rfl
  ·omega
  ·simp at h2;omega
 have hx:0≤x∧x≤2147483647:=by
  cases l with
  | nil=>cases h
  | cons c r=>
    rw [zos] at h
    split at h
    ·cases h
    ·split at h
     ·cases h
     ·split at h
      ·split at h
       ·cases h
       ·cases h;omega
      ·split at h
       ·split at h
        ·rename_i m hm
         cases h
         have:=ztn hm
         omega
        ·cases h
       ·split at h
        ·cases h;omega
        ·cases h
 exact ⟨⟨by show kd≤3;omega,fun _=>hne,hx.1,hx.2⟩,by omega⟩
theorem Lin.snoc {ts:List Tok} {e:Tok} (h:∀ t∈ts,t.kd≠0) (he:e.kd=0):Lin (ts++[e]):=by
 induction ts with
 | nil=>exact .inl ⟨he,rfl⟩
 | cons t r ih=>exact .inr ⟨h t (List.mem_cons_self ..),ih fun u hu=>h u (List.mem_cons_of_mem _ hu)⟩
theorem zxl (k col:Nat) (l:List UInt8) (ts:List Tok) (h:zew k col l=.ok ts):∀ t∈ts,TokOk t∧t.kd≠0:=by
 induction k generalizing col l ts with
 | zero=>cases h;intro t ht;cases ht
 | succ k ih=>
   unfold zew at h
   split at h
   ·cases h;intro t ht;cases ht
   ·exact ih _ _ _ h
   ·rename_i kd n x hs
    cases hx:zew k (col+n) (l.drop n) with
    | error e=>rw [hx] at h;cases h
    | ok us=>
      rw [hx] at h;cases h
      intro t ht
      rcases List.mem_cons.1 ht with rfl | ht
      ·exact zv9 hs
      ·exact ih _ _ _ hx t ht
   ·cases h
theorem zq7 {p:List UInt8} {ts:List Tok} (h:zds p=.ok ts):Lin ts∧∀ t∈ts,TokOk t:=by
 unfold zds at h
 split at h
 ·rename_i us hu
  cases h
  have h1:=zxl _ _ _ _ hu
  refine ⟨Lin.snoc (fun t ht=>(h1 t ht).2) rfl,fun t ht=>?_⟩
  rcases List.mem_append.1 ht with ht | ht
  ·exact (h1 t ht).1
  ·have:t=zgR p:=by simpa using ht
   subst this
   exact ⟨by simp [zgR],fun h=>by simp [zgR] at h,by simp [zgR],by simp [zgR]⟩
 ·cases h
theorem zwa (ps:List (List UInt8)) (i:Nat) (tss:List (List Tok)) (h:zdu i ps=.ok tss):∀ ts∈tss,Lin ts∧∀ t∈ts,TokOk t:=by
 induction ps generalizing i tss with
 | nil=>cases h;intro ts hts;cases hts
 | cons p r ih=>
   unfold zdu at h
   cases hx:zds p with
   | error c=>rw [hx] at h;cases h
   | ok ts=>
     rw [hx] at h
     cases hy:zdu (i+1) r with
     | error e=>rw [hy] at h;cases h
     | ok us=>
       rw [hy] at h;cases h
       intro ts' ht
       rcases List.mem_cons.1 ht with rfl | ht
       ·exact zq7 hx
       ·exact ih _ _ hy ts' ht
theorem zdv {t:Tok} {s:List UInt8} (h:zaO t s=true):t.kd=3:=by
 simp [zaO] at h;exact h.1
theorem zhM (t:Tok) (r:List Tok):ze4 (t::r)=(if t.kd=2 then .ok (⟨[],t.nm,t.col⟩,1) else if t.kd=1 then (match r with
   | []=>.error 0
   | s::u=>if zaO s [43]=true then (match u with
     | n::_=>if n.kd=2 then .ok (⟨t.tx,n.nm,t.col⟩,3) else .error 2
     | []=>.error 2)
     else if zaO s [45]=true then (match u with
      | n::_=>if n.kd=2 then .ok (⟨t.tx, -n.nm,t.col⟩,3) else .error 2
      | []=>.error 2)
     else .ok (⟨t.tx,0,t.col⟩,1)) else .error 0):=rfl
theorem zkP (seen:List (List UInt8)) (t:Tok) (r:List Tok):pairT seen (t::r)=(if t.kd=1∧t.tx∉seen then (match r with
   | []=>.error 1
   | e::u=>if zaO e [61]=true then (match ze4 u with
     | .error o=>.error (2+o)
     | .ok (v,n)=>.ok (⟨t.tx,t.col,v⟩,2+n)) else .error 1)
  else .error 0):=rfl
theorem zl1 {l:List Tok} (hl:Lin l):match ze4 l with
  | .ok (_,n)=>Lin (l.drop n)∧0<n
  | .error o=>o<l.length:=by
 obtain ⟨t,r,rfl⟩:=hl.ne
 rw [zhM]
 by_cases h2:t.kd=2
 ·rw [if_pos h2]
  exact ⟨hl.tail (by omega),by omega⟩
 ·rw [if_neg h2]
  by_cases h1:t.kd=1
  ·rw [if_pos h1]
   have hr:=hl.tail (by omega)
   obtain ⟨s,u,rfl⟩:=hr.ne
   simp only
   by_cases hp:zaO s [43]=true
   ·rw [if_pos hp]
    have hu:=hr.tail (by have:=zdv hp;omega)
    obtain ⟨n,w,rfl⟩:=hu.ne
    simp only
    by_cases hn:n.kd=2
    ·rw [if_pos hn];exact ⟨hu.tail (by omega),by omega⟩
    ·rw [if_neg hn];simp
   ·rw [if_neg hp]
    by_cases hm:zaO s [45]=true
    ·rw [if_pos hm]
     have hu:=hr.tail (by have:=zdv hm;omega)
     obtain ⟨n,w,rfl⟩:=hu.ne
     simp only
     by_cases hn:n.kd=2
     ·rw [if_pos hn];exact ⟨hu.tail (by omega),by omega⟩
     ·rw [if_neg hn];simp
    ·rw [if_neg hm];exact ⟨hr,by omega⟩
  ·rw [if_neg h1];simp
theorem zpQ {seen:List (List UInt8)} {l:List Tok} (hl:Lin l):match pairT seen l with
  | .ok (_,n)=>Lin (l.drop n)∧0<n
  | .error o=>o<l.length:=by
 obtain ⟨t,r,rfl⟩:=hl.ne
 rw [zkP]
 by_cases h1:t.kd=1∧t.tx∉seen
 ·rw [if_pos h1]
  have hr:=hl.tail (by omega)
  obtain ⟨e,u,rfl⟩:=hr.ne
  simp only
  by_cases he:zaO e [61]=true
  ·rw [if_pos he]
   have hu:=hr.tail (by have:=zdv he;omega)
   have h:=zl1 hu
   cases hx:ze4 u with
   | error o=>rw [hx] at h;simp only at h ⊢;simp;omega
   | ok y=>
     obtain ⟨v,n⟩:=y
     rw [hx] at h
     simp only at h ⊢
     rw [Nat.add_comm 2 n]
     exact ⟨h.1,by omega⟩
  ·rw [if_neg he];simp
 ·rw [if_neg h1];simp
theorem zuM (k:Nat) (l:List Tok) (hl:Lin l) (o:Nat) (h:zd8 k l=.error o):o<l.length:=by
 induction k generalizing l o with
 | zero=>cases h
 | succ k ih=>
   obtain ⟨t,r,rfl⟩:=hl.ne
   unfold zd8 at h
   split at h
   ·cases h
   ·have hx:=zl1 hl
    cases hy:ze4 (t::r) with
    | error o'=>rw [hy] at h hx;cases h;exact hx
    | ok y=>
      obtain ⟨v,n⟩:=y
      rw [hy] at h hx
      simp only at h hx
      cases hz:zd8 k ((t::r).drop n) with
      | ok vs=>rw [hz] at h;cases h
      | error o'=>
        rw [hz] at h
        have:=ih _ hx.1 o' hz
        rw [List.length_drop] at this
        have h':n+o'=o:=by injection h
        omega
theorem zto (k:Nat) (seen:List (List UInt8)) (l:List Tok) (hl:Lin l) (o:Nat) (h:zbI k seen l=.error o):o<l.length:=by
 induction k generalizing seen l o with
 | zero=>cases h
 | succ k ih=>
   obtain ⟨t,r,rfl⟩:=hl.ne
   unfold zbI at h
   split at h
   ·cases h
   ·have hx:=zpQ (seen:=seen) hl
    cases hy:pairT seen (t::r) with
    | error o'=>rw [hy] at h hx;cases h;exact hx
    | ok y=>
      obtain ⟨v,n⟩:=y
      rw [hy] at h hx
      simp only at h hx
      cases hz:zbI k (seen++[v.fd]) ((t::r).drop n) with
      | ok vs=>rw [hz] at h;cases h
      | error o'=>
        rw [hz] at h
        have:=ih _ _ hx.1 o' hz
        rw [List.length_drop] at this
        have h':n+o'=o:=by injection h
        omega
theorem ze5 (lab:List UInt8) (t:Tok) (r:List Tok):zdI lab (t::r)=if zaO t [46]=true then (match r with
   | []=>.error 1
   | d::u=>if d.kd=1 then (match zd8 u.length u with
     | .error o=>.error (2+o)
     | .ok vs=>.ok ⟨0,lab,d.tx,vs,[]⟩) else .error 1)
  else match zbI (t::r).length [] (t::r) with
   | .error o=>.error o
   | .ok ps=>.ok ⟨0,lab,[],[],ps⟩:=rfl
theorem zi4 (t s:Tok) (r:List Tok):readT (t::s::r)=if t.kd=1∧zaO s [58]=true then (match zdI t.tx r with
   | .error o=>.error (2+o)
   | .ok x=>.ok x) else zdI [] (t::s::r):=rfl
theorem zl2 (lab:List UInt8) (l:List Tok) (hl:Lin l) (o:Nat) (h:zdI lab l=.error o):o<l.length:=by
 obtain ⟨t,r,rfl⟩:=hl.ne
 rw [ze5] at h
 by_cases hs:zaO t [46]=true
 ·rw [if_pos hs] at h
  have hr:=hl.tail (by have:=zdv hs;omega)
  obtain ⟨d,u,rfl⟩:=hr.ne
  simp only at h
  by_cases hd:d.kd=1
  ·rw [if_pos hd] at h
   have hu:=hr.tail (by omega)
   cases hx:zd8 u.length u with
   | ok vs=>rw [hx] at h;cases h
   | error o'=>
     rw [hx] at h
     have:=zuM _ _ hu o' hx
     have h':2+o'=o:=by injection h
     simp;omega
  ·rw [if_neg hd] at h;cases h;simp
 ·rw [if_neg hs] at h
  cases hx:zbI (t::r).length [] (t::r) with
  | ok vs=>rw [hx] at h;cases h
  | error o'=>
    rw [hx] at h
    have:=zto _ _ _ hl o' hx
    have h':o'=o:=by injection h
    omega
theorem zuN (l:List Tok) (hl:Lin l) (o:Nat) (h:readT l=.error o):o<l.length:=by
 obtain ⟨t,r,rfl⟩:=hl.ne
 cases r with
 | nil=>exact zl2 [] _ hl o h
 | cons s r=>
   rw [zi4] at h
   split at h
   ·rename_i hc
    have hr:Lin r:=(hl.tail (by omega)).tail (by have:=zdv hc.2;omega)
    cases hx:zdI t.tx r with
    | ok x=>rw [hx] at h;cases h
    | error o'=>
      rw [hx] at h
      have:=zl2 _ _ hr o' hx
      have h':2+o'=o:=by injection h
      simp;omega
   ·exact zl2 [] _ hl o h
end Go.Proofs.YtifploedaacedaaGreatDoorE
namespace Go.Proofs.YtifploedaacedaaGreatDoorE
set_option maxRecDepth 20000
open Go Go.E Go.Proofs
noncomputable def zhv (cf:zak) (lf:zac) (p':Value) (st:SS):Option (Value×SS):=
 let a:SS:=(st.ro st.next).new (.cells [.int .i64 0,.string ⟨#[]⟩,.int .i64 0,.int .i64 0,.int .i64 0] 0)
 (zaj p').bind fun b=>
 (addr? b).bind fun c=>
 (a.ld c.1 c.2).bind fun d=>
 (zaj p').bind fun e=>
 (addr? e).bind fun f=>
 ((a.ld f.1 (f.2+1)).bind (asI .i64)).bind fun g=>
 (zam d g 5).bind fun h=>
 (a.ldN h.1 h.2 5).bind fun i=>
 (a.stV ((st.ro st.next).next) 0 5 i).bind fun j=>
 (j.rdN ((st.ro st.next).next) 0 5).bind fun k=>
 cond (flat3 k) (some (k,st.adv j.next)) none
noncomputable abbrev zkQ:zac:=lS Tryz.prog Lk0 Tryz.f69 zaz
theorem zkR:Lk0.func 69=some (69,Tryz.f69):=by kernel_rfl
theorem zkS [Sym] (p':Value) (st:SS) {r:Value×SS} (h:zhv cc zkQ p' st=some r):cc 69 [p'] st=some r:=
 zaf (li:=zaz) zai zal zkR rfl (fun _=>rfl) (.trans (by kernel_rfl) h)
noncomputable def zeN (cf:zak) (lf:zac) (p':Value) (st:SS):Option (Value×SS):=
 let a:SS:=(st.ro st.next).new (.cells [.int .i64 0,.string ⟨#[]⟩,.int .i64 0,.int .i64 0,.int .i64 0] 0)
 (cf 69 [p'] a).bind fun b=>
 ((zd2 Lk0 150 0 b.1).bind (asI .i64)).bind fun c=>
 cond (decide (c=0)) (
 (cf 69 [p'] b.2).bind fun d=>
 (d.2.stV ((st.ro st.next).next) 0 5 d.1).bind fun e=>
 (e.rdN ((st.ro st.next).next) 0 5).bind fun f=>
 cond (flat3 f) (some (f,st.adv e.next)) none) (
 (zaj p').bind fun g=>
 (addr? g).bind fun h=>
 (b.2.ld h.1 h.2).bind fun i=>
 (zaj p').bind fun j=>
 (addr? j).bind fun k=>
 ((b.2.ld k.1 (k.2+1)).bind (asI .i64)).bind fun l=>
 let m:Int:=IntKind.wrap .i64 (l+1)
 (zam i m 5).bind fun n=>
 (b.2.ldN n.1 n.2 5).bind fun o=>
 (b.2.stV ((st.ro st.next).next) 0 5 o).bind fun p=>
 (p.rdN ((st.ro st.next).next) 0 5).bind fun q=>
 cond (flat3 q) (some (q,st.adv p.next)) none)
noncomputable abbrev zjS:zac:=lS Tryz.prog Lk0 Tryz.f91 zaz
theorem zjT:Lk0.func 91=some (91,Tryz.f91):=by kernel_rfl
theorem zfX [Sym] (p':Value) (st:SS) {r:Value×SS} (h:zeN cc zjS p' st=some r):cc 91 [p'] st=some r:=
 zaf (li:=zaz) zai zal zjT rfl (fun _=>rfl) (.trans (by kernel_rfl) h)
noncomputable def zdi (cf:zak) (lf:zac) (p':Value) (sign':ByteArray) (st:SS):Option (Value×SS):=
 (cf 69 [p'] st).bind fun a=>
 let b:SS:=a.2.new (.cells [.int .i64 0,.string ⟨#[]⟩,.int .i64 0,.int .i64 0,.int .i64 0] 0)
 (b.stV a.2.next 0 5 a.1).bind fun c=>
 ((c.ld a.2.next 0).bind (asI .i64)).bind fun d=>
 cond (!(decide (d=3))) (
 some (.bool false,c)) (
 ((c.ld a.2.next 1).bind asS).bind fun e=>
 cond (!(eqT e sign')) (
 some (.bool false,c)) (
 (zaj p').bind fun f=>
 (addr? f).bind fun g=>
 ((c.ld g.1 (g.2+1)).bind (asI .i64)).bind fun h=>
 let i:Int:=IntKind.wrap .i64 (h+1)
 (zaj p').bind fun j=>
 (addr? j).bind fun k=>
 (c.st k.1 (k.2+1) [.int .i64 i]).bind fun l=>
 some (.bool true,l)))
noncomputable abbrev zjj:zac:=lS Tryz.prog Lk0 Tryz.f92 zaz
theorem zjk:Lk0.func 92=some (92,Tryz.f92):=by kernel_rfl
theorem zdD [Sym] (p':Value) (sign':ByteArray) (st:SS) {r:Value×SS} (h:zdi cc zjj p' sign' st=some r):cc 92 [p',.string sign'] st=some r:=
 zaf (li:=zaz) zai zal zjk rfl (fun _=>rfl) (.trans (by kernel_rfl) h)
noncomputable def zeO (cf:zak) (lf:zac) (p':Value) (st:SS):Option (Value×SS):=
 (cf 69 [p'] st).bind fun a=>
 let b:SS:=a.2.new (.cells [.int .i64 0,.string ⟨#[]⟩,.int .i64 0,.int .i64 0,.int .i64 0] 0)
 (b.stV a.2.next 0 5 a.1).bind fun c=>
 ((c.ld a.2.next 0).bind (asI .i64)).bind fun d=>
 cond (!(decide (d=1))) (
 some (.tuple #[.string ⟨#[]⟩,.bool false],c)) (
 (zaj p').bind fun e=>
 (addr? e).bind fun f=>
 ((c.ld f.1 (f.2+1)).bind (asI .i64)).bind fun g=>
 let h:Int:=IntKind.wrap .i64 (g+1)
 (zaj p').bind fun i=>
 (addr? i).bind fun j=>
 (c.st j.1 (j.2+1) [.int .i64 h]).bind fun k=>
 ((k.ld a.2.next 1).bind asS).bind fun l=>
 some (.tuple #[.string l,.bool true],k))
noncomputable abbrev zjU:zac:=lS Tryz.prog Lk0 Tryz.f93 zaz
theorem zjV:Lk0.func 93=some (93,Tryz.f93):=by kernel_rfl
theorem zfY [Sym] (p':Value) (st:SS) {r:Value×SS} (h:zeO cc zjU p' st=some r):cc 93 [p'] st=some r:=
 zaf (li:=zaz) zai zal zjV rfl (fun _=>rfl) (.trans (by kernel_rfl) h)
noncomputable def zd9 (cf:zak) (lf:zac) (p':Value) (st:SS):Option (Value×SS):=
 (cf 69 [p'] st).bind fun a=>
 let b:SS:=a.2.new (.cells [.int .i64 0,.string ⟨#[]⟩,.int .i64 0,.int .i64 0,.int .i64 0] 0)
 (b.stV a.2.next 0 5 a.1).bind fun c=>
 ((c.ld a.2.next 0).bind (asI .i64)).bind fun d=>
 cond (!(decide (d=2))) (
 some (.tuple #[.int .i64 0,.bool false],c)) (
 (zaj p').bind fun e=>
 (addr? e).bind fun f=>
 ((c.ld f.1 (f.2+1)).bind (asI .i64)).bind fun g=>
 let h:Int:=IntKind.wrap .i64 (g+1)
 (zaj p').bind fun i=>
 (addr? i).bind fun j=>
 (c.st j.1 (j.2+1) [.int .i64 h]).bind fun k=>
 ((k.ld a.2.next 2).bind (asI .i64)).bind fun l=>
 some (.tuple #[.int .i64 l,.bool true],k))
noncomputable abbrev ziL:zac:=lS Tryz.prog Lk0 Tryz.f111 zaz
theorem ziM:Lk0.func 111=some (111,Tryz.f111):=by kernel_rfl
theorem ze9 [Sym] (p':Value) (st:SS) {r:Value×SS} (h:zd9 cc ziL p' st=some r):cc 111 [p'] st=some r:=
 zaf (li:=zaz) zai zal ziM rfl (fun _=>rfl) (.trans (by kernel_rfl) h)
noncomputable def zbk (cf:zak) (lf:zac) (p':Value) (st:SS):Option (Value×SS):=
 let a:SS:=st.new (.cells [.string ⟨#[]⟩,.int .i64 0,.int .i64 0] 0)
 (cf 69 [p'] a).bind fun b=>
 ((zd2 Lk0 150 4 b.1).bind (asI .i64)).bind fun c=>
 let d:SS:=b.2.new (.cells [.string ⟨#[]⟩,.int .i64 0,.int .i64 0] 0)
 (d.st b.2.next 0 [.string ⟨#[]⟩,.int .i64 0,.int .i64 c]).bind fun e=>
 (cf 111 [p'] e).bind fun f=>
 ((zar f.1 0).bind (asI .i64)).bind fun g=>
 ((zar f.1 1).bind asB).bind fun h=>
 (f.2.st b.2.next 1 [.int .i64 g]).bind fun i=>
 cond h (
 (i.ldN b.2.next 0 3).bind fun j=>
 (i.stV st.next 0 3 j).bind fun k=>
 (k.rdN st.next 0 3).bind fun l=>
 some (.tuple #[l,.bool true],k)) (
 (cf 93 [p'] i).bind fun m=>
 ((zar m.1 0).bind asS).bind fun n=>
 ((zar m.1 1).bind asB).bind fun o=>
 (m.2.st b.2.next 0 [.string n]).bind fun p=>
 cond (!o) (
 (p.ldN b.2.next 0 3).bind fun q=>
 (p.stV st.next 0 3 q).bind fun r=>
 (r.rdN st.next 0 3).bind fun s=>
 some (.tuple #[s,.bool false],r)) (
 (cf 92 [p',.string ⟨#[43]⟩] p).bind fun t=>
 ((some t.1).bind asB).bind fun u=>
 cond u (
 (cf 111 [p'] t.2).bind fun v=>
 ((zar v.1 0).bind (asI .i64)).bind fun w=>
 ((zar v.1 1).bind asB).bind fun x=>
 (v.2.st b.2.next 1 [.int .i64 w]).bind fun y=>
 (y.ldN b.2.next 0 3).bind fun z=>
 (y.stV st.next 0 3 z).bind fun A=>
 (A.rdN st.next 0 3).bind fun B=>
 some (.tuple #[B,.bool x],A)) (
 (cf 92 [p',.string ⟨#[45]⟩] t.2).bind fun C=>
 ((some C.1).bind asB).bind fun D=>
 cond D (
 (cf 111 [p'] C.2).bind fun E=>
 ((zar E.1 0).bind (asI .i64)).bind fun F=>
 ((zar E.1 1).bind asB).bind fun G=>
 (E.2.st b.2.next 1 [.int .i64 F]).bind fun H=>
 ((H.ld b.2.next 1).bind (asI .i64)).bind fun I=>
 let J:Int:=IntKind.wrap .i64 (0-I)
 (H.st b.2.next 1 [.int .i64 J]).bind fun K=>
 (K.ldN b.2.next 0 3).bind fun L=>
 (K.stV st.next 0 3 L).bind fun M=>
 (M.rdN st.next 0 3).bind fun N=>
 some (.tuple #[N,.bool G],M)) (
 (C.2.ldN b.2.next 0 3).bind fun O=>
 (C.2.stV st.next 0 3 O).bind fun P=>
 (P.rdN st.next 0 3).bind fun Q=>
 some (.tuple #[Q,.bool o],P)))))
noncomputable abbrev zjl:zac:=lS Tryz.prog Lk0 Tryz.f94 zaz
theorem zjm:Lk0.func 94=some (94,Tryz.f94):=by kernel_rfl
theorem zbg [Sym] (p':Value) (st:SS) {r:Value×SS} (h:zbk cc zjl p' st=some r):cc 94 [p'] st=some r:=
 zaf (li:=zaz) zai zal zjm rfl (fun _=>rfl) (.trans (by kernel_rfl) h)
noncomputable def zb2 (cf:zak) (lf:zac) (p':Value) (l':Value) (st:SS):Option (Value×SS):=
 (cf 69 [p'] st).bind fun a=>
 ((zd2 Lk0 150 4 a.1).bind (asI .i64)).bind fun b=>
 let c:SS:=a.2.new (.cells [.string ⟨#[]⟩,.int .i64 0,.string ⟨#[]⟩,.int .i64 0,.int .i64 0] 0)
 (c.st a.2.next 0 [.string ⟨#[]⟩,.int .i64 b,.string ⟨#[]⟩,.int .i64 0,.int .i64 0]).bind fun d=>
 (cf 69 [p'] d).bind fun e=>
 ((zd2 Lk0 150 1 e.1).bind asS).bind fun f=>
 let g:SS:=e.2.new (.cells [.string ⟨#[]⟩] 0)
 (g.st e.2.next 0 [.string f]).bind fun h=>
 (cf 69 [p'] h).bind fun i=>
 ((zd2 Lk0 150 0 i.1).bind (asI .i64)).bind fun j=>
 cond (!(decide (j=1))) (
 some (.bool false,i.2)) (
 (zaj l').bind fun k=>
 (addr? k).bind fun l=>
 (i.2.ld l.1 (l.2+4)).bind fun m=>
 (cf 112 [m,.func (.func 113) #[] #[ptr e.2.next 0]] i.2).bind fun n=>
 ((some n.1).bind asB).bind fun o=>
 cond o (
 some (.bool false,n.2)) (
 ((n.2.ld e.2.next 0).bind asS).bind fun p=>
 (n.2.st a.2.next 0 [.string p]).bind fun q=>
 (zaj p').bind fun r=>
 (addr? r).bind fun s=>
 ((q.ld s.1 (s.2+1)).bind (asI .i64)).bind fun t=>
 let u:Int:=IntKind.wrap .i64 (t+1)
 (zaj p').bind fun v=>
 (addr? v).bind fun w=>
 (q.st w.1 (w.2+1) [.int .i64 u]).bind fun x=>
 (cf 92 [p',.string ⟨#[61]⟩] x).bind fun y=>
 ((some y.1).bind asB).bind fun z=>
 cond (!z) (
 some (.bool false,y.2)) (
 (cf 94 [p'] y.2).bind fun A=>
 (zar A.1 0).bind fun B=>
 ((zar A.1 1).bind asB).bind fun C=>
 (A.2.stV a.2.next 2 3 B).bind fun D=>
 cond (!C) (
 some (.bool false,D)) (
 (zaj l').bind fun E=>
 (addr? E).bind fun F=>
 (D.ld F.1 (F.2+4)).bind fun G=>
 (D.ldN a.2.next 0 5).bind fun H=>
 (za0 H 5).bind fun I=>
 let J:SS:=D.new (.cells (I++([])) 5)
 (J.app 5 56 G (.slice (some ⟨D.next,0,none⟩) 1 1)).bind fun K=>
 (zaj l').bind fun L=>
 (addr? L).bind fun M=>
 (K.2.stV M.1 (M.2+4) 1 K.1).bind fun N=>
 some (.bool true,N)))))
noncomputable abbrev zjW:zac:=lS Tryz.prog Lk0 Tryz.f95 zaz
theorem zjX:Lk0.func 95=some (95,Tryz.f95):=by kernel_rfl
theorem zb3 [Sym] (p':Value) (l':Value) (st:SS) {r:Value×SS} (h:zb2 cc zjW p' l' st=some r):cc 95 [p',l'] st=some r:=
 zaf (li:=zaz) zai zal zjX rfl (fun _=>rfl) (.trans (by kernel_rfl) h)
def zfa:LoopI:=⟨[(0,.any),(2,.any),(4,.any)],[(.exit 2,[(2,.any),(4,.any)]),(.ret,[(2,.any),(3,.bool)])]⟩
def zfb:LoopI:=⟨[(0,.any),(2,.any),(4,.any)],[(.exit 0,[(2,.any),(4,.any)]),(.ret,[(2,.any),(3,.bool)])]⟩
def zfZ (n:Nat):Option LoopI:=cond (Nat.beq n 11) (some zfb) (cond (Nat.beq n 17) (some zfa) (none))
noncomputable def zcD (cf:zak) (lf:zac) (p':Value) (st:SS):Option (Value×SS):=
 let a:SS:=st.new (.cells [.int .i64 0,.string ⟨#[]⟩,.string ⟨#[]⟩,.slice none 0 0,.slice none 0 0] 0)
 (cf 69 [p'] a).bind fun b=>
 ((zd2 Lk0 150 3 b.1).bind (asI .i64)).bind fun c=>
 let d:SS:=b.2.new (.cells [.int .i64 0,.string ⟨#[]⟩,.string ⟨#[]⟩,.slice none 0 0,.slice none 0 0] 0)
 (d.st b.2.next 0 [.int .i64 c,.string ⟨#[]⟩,.string ⟨#[]⟩,.slice none 0 0,.slice none 0 0]).bind fun e=>
 (cf 91 [p'] e).bind fun f=>
 let g:SS:=f.2.new (.cells [.int .i64 0,.string ⟨#[]⟩,.int .i64 0,.int .i64 0,.int .i64 0] 0)
 (g.stV f.2.next 0 5 f.1).bind fun h=>
 (cf 69 [p'] h).bind fun i=>
 ((zd2 Lk0 150 0 i.1).bind (asI .i64)).bind fun j=>
 cond (decide (j=1)) (
 ((i.2.ld f.2.next 0).bind (asI .i64)).bind fun k=>
 cond (decide (k=3)) (
 ((i.2.ld f.2.next 1).bind asS).bind fun l=>
 cond (eqT l ⟨#[58]⟩) (
 (cf 69 [p'] i.2).bind fun m=>
 ((zd2 Lk0 150 1 m.1).bind asS).bind fun n=>
 (m.2.st b.2.next 1 [.string n]).bind fun o=>
 (zaj p').bind fun p=>
 (addr? p).bind fun q=>
 ((o.ld q.1 (q.2+1)).bind (asI .i64)).bind fun r=>
 let s:Int:=IntKind.wrap .i64 (r+2)
 (zaj p').bind fun t=>
 (addr? t).bind fun u=>
 (o.st u.1 (u.2+1) [.int .i64 s]).bind fun v=>
 (cf 92 [p',.string ⟨#[46]⟩] v).bind fun w=>
 ((some w.1).bind asB).bind fun x=>
 cond x (
 (cf 93 [p'] w.2).bind fun y=>
 ((zar y.1 0).bind asS).bind fun z=>
 ((zar y.1 1).bind asB).bind fun A=>
 (y.2.st b.2.next 2 [.string z]).bind fun B=>
 cond (!A) (
 (B.ldN b.2.next 0 5).bind fun C=>
 (B.stV st.next 0 5 C).bind fun D=>
 (D.rdN st.next 0 5).bind fun E=>
 some (.tuple #[E,.bool false],D)) (
 (lf 11 [p',ptr st.next 0,ptr b.2.next 0] B).bind fun F=>
 cond (Nat.beq F.1 0) (
 (F.2.1[0]?).bind fun G=>
 (F.2.1[1]?).bind fun H=>
 (addr? H).bind fun I=>
 (F.2.2.ldN I.1 I.2 5).bind fun J=>
 (addr? G).bind fun K=>
 (F.2.2.stV K.1 K.2 5 J).bind fun L=>
 (addr? G).bind fun M=>
 (L.rdN M.1 M.2 5).bind fun N=>
 some (.tuple #[N,.bool true],L)) (
 (F.2.1[0]?).bind fun O=>
 ((F.2.1[1]?).bind asB).bind fun P=>
 (addr? O).bind fun Q=>
 (F.2.2.rdN Q.1 Q.2 5).bind fun R=>
 some (.tuple #[R,.bool P],F.2.2)))) (
 (lf 17 [p',ptr st.next 0,ptr b.2.next 0] w.2).bind fun S=>
 cond (Nat.beq S.1 0) (
 (S.2.1[0]?).bind fun T=>
 (S.2.1[1]?).bind fun U=>
 (addr? U).bind fun V=>
 (S.2.2.ldN V.1 V.2 5).bind fun W=>
 (addr? T).bind fun X=>
 (S.2.2.stV X.1 X.2 5 W).bind fun Y=>
 (addr? T).bind fun Z=>
 (Y.rdN Z.1 Z.2 5).bind fun aA=>
 some (.tuple #[aA,.bool true],Y)) (
 (S.2.1[0]?).bind fun aB=>
 ((S.2.1[1]?).bind asB).bind fun aC=>
 (addr? aB).bind fun aD=>
 (S.2.2.rdN aD.1 aD.2 5).bind fun aE=>
 some (.tuple #[aE,.bool aC],S.2.2)))) (
 (cf 92 [p',.string ⟨#[46]⟩] i.2).bind fun aF=>
 ((some aF.1).bind asB).bind fun aG=>
 cond aG (
 (cf 93 [p'] aF.2).bind fun aH=>
 ((zar aH.1 0).bind asS).bind fun aI=>
 ((zar aH.1 1).bind asB).bind fun aJ=>
 (aH.2.st b.2.next 2 [.string aI]).bind fun aK=>
 cond (!aJ) (
 (aK.ldN b.2.next 0 5).bind fun aL=>
 (aK.stV st.next 0 5 aL).bind fun aM=>
 (aM.rdN st.next 0 5).bind fun aN=>
 some (.tuple #[aN,.bool false],aM)) (
 (lf 11 [p',ptr st.next 0,ptr b.2.next 0] aK).bind fun aO=>
 cond (Nat.beq aO.1 0) (
 (aO.2.1[0]?).bind fun aP=>
 (aO.2.1[1]?).bind fun aQ=>
 (addr? aQ).bind fun aR=>
 (aO.2.2.ldN aR.1 aR.2 5).bind fun aS=>
 (addr? aP).bind fun aT=>
 (aO.2.2.stV aT.1 aT.2 5 aS).bind fun aU=>
 (addr? aP).bind fun aV=>
 (aU.rdN aV.1 aV.2 5).bind fun aW=>
 some (.tuple #[aW,.bool true],aU)) (
 (aO.2.1[0]?).bind fun aX=>
 ((aO.2.1[1]?).bind asB).bind fun aY=>
 (addr? aX).bind fun aZ=>
 (aO.2.2.rdN aZ.1 aZ.2 5).bind fun bA=>
 some (.tuple #[bA,.bool aY],aO.2.2)))) (
 (lf 17 [p',ptr st.next 0,ptr b.2.next 0] aF.2).bind fun bB=>
 cond (Nat.beq bB.1 0) (
 (bB.2.1[0]?).bind fun bC=>
 (bB.2.1[1]?).bind fun bD=>
 (addr? bD).bind fun bE=>
 (bB.2.2.ldN bE.1 bE.2 5).bind fun bF=>
 (addr? bC).bind fun bG=>
 (bB.2.2.stV bG.1 bG.2 5 bF).bind fun bH=>
 (addr? bC).bind fun bI=>
 (bH.rdN bI.1 bI.2 5).bind fun bJ=>
 some (.tuple #[bJ,.bool true],bH)) (
 (bB.2.1[0]?).bind fun bK=>
 ((bB.2.1[1]?).bind asB).bind fun bL=>
 (addr? bK).bind fun bM=>
 (bB.2.2.rdN bM.1 bM.2 5).bind fun bN=>
 some (.tuple #[bN,.bool bL],bB.2.2))))) (
 (cf 92 [p',.string ⟨#[46]⟩] i.2).bind fun bO=>
 ((some bO.1).bind asB).bind fun bP=>
 cond bP (
 (cf 93 [p'] bO.2).bind fun bQ=>
 ((zar bQ.1 0).bind asS).bind fun bR=>
 ((zar bQ.1 1).bind asB).bind fun bS=>
 (bQ.2.st b.2.next 2 [.string bR]).bind fun bT=>
 cond (!bS) (
 (bT.ldN b.2.next 0 5).bind fun bU=>
 (bT.stV st.next 0 5 bU).bind fun bV=>
 (bV.rdN st.next 0 5).bind fun bW=>
 some (.tuple #[bW,.bool false],bV)) (
 (lf 11 [p',ptr st.next 0,ptr b.2.next 0] bT).bind fun bX=>
 cond (Nat.beq bX.1 0) (
 (bX.2.1[0]?).bind fun bY=>
 (bX.2.1[1]?).bind fun bZ=>
 (addr? bZ).bind fun cA=>
 (bX.2.2.ldN cA.1 cA.2 5).bind fun cB=>
 (addr? bY).bind fun cC=>
 (bX.2.2.stV cC.1 cC.2 5 cB).bind fun cD=>
 (addr? bY).bind fun cE=>
 (cD.rdN cE.1 cE.2 5).bind fun cF=>
 some (.tuple #[cF,.bool true],cD)) (
 (bX.2.1[0]?).bind fun cG=>
 ((bX.2.1[1]?).bind asB).bind fun cH=>
 (addr? cG).bind fun cI=>
 (bX.2.2.rdN cI.1 cI.2 5).bind fun cJ=>
 some (.tuple #[cJ,.bool cH],bX.2.2)))) (
 (lf 17 [p',ptr st.next 0,ptr b.2.next 0] bO.2).bind fun cK=>
 cond (Nat.beq cK.1 0) (
 (cK.2.1[0]?).bind fun cL=>
 (cK.2.1[1]?).bind fun cM=>
 (addr? cM).bind fun cN=>
 (cK.2.2.ldN cN.1 cN.2 5).bind fun cO=>
 (addr? cL).bind fun cP=>
 (cK.2.2.stV cP.1 cP.2 5 cO).bind fun cQ=>
 (addr? cL).bind fun cR=>
 (cQ.rdN cR.1 cR.2 5).bind fun cS=>
 some (.tuple #[cS,.bool true],cQ)) (
 (cK.2.1[0]?).bind fun cT=>
 ((cK.2.1[1]?).bind asB).bind fun cU=>
 (addr? cT).bind fun cV=>
 (cK.2.2.rdN cV.1 cV.2 5).bind fun cW=>
 some (.tuple #[cW,.bool cU],cK.2.2))))) (
 (cf 92 [p',.string ⟨#[46]⟩] i.2).bind fun cX=>
 ((some cX.1).bind asB).bind fun cY=>
 cond cY (
 (cf 93 [p'] cX.2).bind fun cZ=>
 ((zar cZ.1 0).bind asS).bind fun dA=>
 ((zar cZ.1 1).bind asB).bind fun dB=>
 (cZ.2.st b.2.next 2 [.string dA]).bind fun dC=>
 cond (!dB) (
 (dC.ldN b.2.next 0 5).bind fun dD=>
 (dC.stV st.next 0 5 dD).bind fun dE=>
 (dE.rdN st.next 0 5).bind fun dF=>
 some (.tuple #[dF,.bool false],dE)) (
 (lf 11 [p',ptr st.next 0,ptr b.2.next 0] dC).bind fun dG=>
 cond (Nat.beq dG.1 0) (
 (dG.2.1[0]?).bind fun dH=>
 (dG.2.1[1]?).bind fun dI=>
 (addr? dI).bind fun dJ=>
 (dG.2.2.ldN dJ.1 dJ.2 5).bind fun dK=>
 (addr? dH).bind fun dL=>
 (dG.2.2.stV dL.1 dL.2 5 dK).bind fun dM=>
 (addr? dH).bind fun dN=>
 (dM.rdN dN.1 dN.2 5).bind fun dO=>
 some (.tuple #[dO,.bool true],dM)) (
 (dG.2.1[0]?).bind fun dP=>
 ((dG.2.1[1]?).bind asB).bind fun dQ=>
 (addr? dP).bind fun dR=>
 (dG.2.2.rdN dR.1 dR.2 5).bind fun dS=>
 some (.tuple #[dS,.bool dQ],dG.2.2)))) (
 (lf 17 [p',ptr st.next 0,ptr b.2.next 0] cX.2).bind fun dT=>
 cond (Nat.beq dT.1 0) (
 (dT.2.1[0]?).bind fun dU=>
 (dT.2.1[1]?).bind fun dV=>
 (addr? dV).bind fun dW=>
 (dT.2.2.ldN dW.1 dW.2 5).bind fun dX=>
 (addr? dU).bind fun dY=>
 (dT.2.2.stV dY.1 dY.2 5 dX).bind fun dZ=>
 (addr? dU).bind fun gA=>
 (dZ.rdN gA.1 gA.2 5).bind fun gB=>
 some (.tuple #[gB,.bool true],dZ)) (
 (dT.2.1[0]?).bind fun gC=>
 ((dT.2.1[1]?).bind asB).bind fun gD=>
 (addr? gC).bind fun gE=>
 (dT.2.2.rdN gE.1 gE.2 5).bind fun gF=>
 some (.tuple #[gF,.bool gD],dT.2.2))))
noncomputable abbrev zaI:zac:=lS Tryz.prog Lk0 Tryz.f68 zfZ
theorem zjY:Lk0.func 68=some (68,Tryz.f68):=by kernel_rfl
theorem zf0 [Sym] (p':Value) (st:SS) {r:Value×SS} (h:zcD cc zaI p' st=some r):cc 68 [p'] st=some r:=
 zaf (li:=zfZ) zai zal zjY rfl (fun _=>rfl) (.trans (by kernel_rfl) h)
noncomputable def zcv (cf:zak) (lf:zac) (p':Value) (t2':Value) (l':Value) (st:SS):Option (Nat×List Value×SS):=
 (cf 69 [p'] st).bind fun a=>
 ((zd2 Lk0 150 0 a.1).bind (asI .i64)).bind fun b=>
 cond (!(decide (b=0))) (
 (cf 94 [p'] a.2).bind fun c=>
 (zar c.1 0).bind fun d=>
 ((zar c.1 1).bind asB).bind fun e=>
 let f:SS:=c.2.new (.cells [.string ⟨#[]⟩,.int .i64 0,.int .i64 0] 0)
 (f.stV c.2.next 0 3 d).bind fun g=>
 cond (!e) (
 (addr? l').bind fun h=>
 (g.ldN h.1 h.2 5).bind fun i=>
 (addr? t2').bind fun j=>
 (g.stV j.1 j.2 5 i).bind fun k=>
 some (1,[t2',.bool false],k)) (
 (addr? l').bind fun l=>
 (g.ld l.1 (l.2+3)).bind fun m=>
 (g.ldN c.2.next 0 3).bind fun n=>
 (za0 n 3).bind fun o=>
 let p:SS:=g.new (.cells (o++([])) 3)
 (p.app 3 32 m (.slice (some ⟨g.next,0,none⟩) 1 1)).bind fun q=>
 (addr? l').bind fun r=>
 (q.2.stV r.1 (r.2+3) 1 q.1).bind fun s=>
 lf 11 [p',t2',l'] s)) (
 some (0,[t2',l'],a.2))
theorem zcY [Sym] (p':Value) (t2':Value) (l':Value) (st:SS) {r:Nat×List Value×SS} (h:zcv cc zaI p' t2' l' st=some r):zaI 11 [p',t2',l'] st=some r:=
 zaw zai zal (key:=11) (I:=zfb) rfl (by kernel_rfl) (by kernel_rfl) rfl rfl (.trans (by kernel_rfl) h)
noncomputable def zcw (cf:zak) (lf:zac) (p':Value) (t2':Value) (l':Value) (st:SS):Option (Nat×List Value×SS):=
 (cf 69 [p'] st).bind fun a=>
 ((zd2 Lk0 150 0 a.1).bind (asI .i64)).bind fun b=>
 cond (!(decide (b=0))) (
 (cf 95 [p',l'] a.2).bind fun c=>
 ((some c.1).bind asB).bind fun d=>
 cond (!d) (
 (addr? l').bind fun e=>
 (c.2.ldN e.1 e.2 5).bind fun f=>
 (addr? t2').bind fun g=>
 (c.2.stV g.1 g.2 5 f).bind fun h=>
 some (1,[t2',.bool false],h)) (
 lf 17 [p',t2',l'] c.2)) (
 some (0,[t2',l'],a.2))
theorem zcZ [Sym] (p':Value) (t2':Value) (l':Value) (st:SS) {r:Nat×List Value×SS} (h:zcw cc zaI p' t2' l' st=some r):zaI 17 [p',t2',l'] st=some r:=
 zaw zai zal (key:=17) (I:=zfa) rfl (by kernel_rfl) (by kernel_rfl) rfl rfl (.trans (by kernel_rfl) h)
def zin:LoopI:=⟨[(3,.any),(5,.any),(8,.any),(9,.any)],[(.exit 0,[(3,.any),(9,.any)]),(.ret,[(2,.any),(3,.any),(4,.int .i64)])]⟩
def zi5 (n:Nat):Option LoopI:=cond (Nat.beq n 6) (some zin) (none)
noncomputable def zgj (cf:zak) (lf:zac) (text':ByteArray) (st:SS):Option (Value×SS):=
 let a:SS:=st.new (.cells [.int .i64 0,.int .i64 0] 0)
 (cf 67 [.string text'] a).bind fun b=>
 (zar b.1 0).bind fun c=>
 (zar b.1 1).bind fun d=>
 ((zar b.1 2).bind (asI .i64)).bind fun e=>
 let f:SS:=b.2.new (.cells [.int .i64 0,.int .i64 0] 0)
 (f.stV b.2.next 0 2 d).bind fun g=>
 cond (!(decide (e=0))) (
 (g.ldN b.2.next 0 2).bind fun h=>
 (g.stV st.next 0 2 h).bind fun i=>
 (i.rdN st.next 0 2).bind fun j=>
 some (.tuple #[.slice none 0 0,j,.int .i64 e],i)) (
 (za0 c 1).bind fun k=>
 let l:SS:=g.new (.cells (.agg ⟨spl [.slice none 0 0,.int .i64 0] 0 k⟩:Value).cells.toList 0)
 (lf 6 [ptr st.next 0,c,ptr g.next 0,.slice none 0 0] l).bind fun m=>
 cond (Nat.beq m.1 0) (
 (m.2.1[0]?).bind fun n=>
 (m.2.1[1]?).bind fun o=>
 (addr? n).bind fun p=>
 (m.2.2.st p.1 p.2 [.int .i64 0,.int .i64 0]).bind fun q=>
 (addr? n).bind fun r=>
 (q.rdN r.1 r.2 2).bind fun s=>
 some (.tuple #[o,s,.int .i64 0],q)) (
 (m.2.1[0]?).bind fun t=>
 (m.2.1[1]?).bind fun u=>
 ((m.2.1[2]?).bind (asI .i64)).bind fun v=>
 (addr? u).bind fun w=>
 (m.2.2.rdN w.1 w.2 2).bind fun x=>
 some (.tuple #[t,x,.int .i64 v],m.2.2)))
noncomputable abbrev zbU:zac:=lS Tryz.prog Lk0 Tryz.f42 zi5
theorem zot:Lk0.func 42=some (42,Tryz.f42):=by kernel_rfl
theorem zgk [Sym] (text':ByteArray) (st:SS) {r:Value×SS} (h:zgj cc zbU text' st=some r):cc 42 [.string text'] st=some r:=
 zaf (li:=zi5) zai zal zot rfl (fun _=>rfl) (.trans (by kernel_rfl) h)
noncomputable def zca (cf:zak) (lf:zac) (t3':Value) (tokens':Value) (p':Value) (out':Value) (st:SS):Option (Nat×List Value×SS):=
 (zaj p').bind fun a=>
 (addr? a).bind fun b=>
 ((st.ld b.1 (b.2+1)).bind (asI .i64)).bind fun c=>
 ((lenV tokens').bind (asI .i64)).bind fun d=>
 cond (decide (c<d)) (
 (cf 68 [p'] st).bind fun e=>
 (zar e.1 0).bind fun f=>
 ((zar e.1 1).bind asB).bind fun g=>
 let h:SS:=e.2.new (.cells [.int .i64 0,.string ⟨#[]⟩,.string ⟨#[]⟩,.slice none 0 0,.slice none 0 0] 0)
 (h.stV e.2.next 0 5 f).bind fun i=>
 cond (!g) (
 (cf 69 [p'] i).bind fun j=>
 ((zd2 Lk0 150 3 j.1).bind (asI .i64)).bind fun k=>
 (cf 69 [p'] j.2).bind fun l=>
 ((zd2 Lk0 150 4 l.1).bind (asI .i64)).bind fun m=>
 (addr? t3').bind fun n=>
 (l.2.st n.1 n.2 [.int .i64 k,.int .i64 m]).bind fun o=>
 some (1,[.slice none 0 0,t3',.int .i64 4],o)) (
 (zaj p').bind fun p=>
 (addr? p).bind fun q=>
 ((i.ld q.1 (q.2+1)).bind (asI .i64)).bind fun r=>
 let s:Int:=IntKind.wrap .i64 (r+1)
 (zaj p').bind fun t=>
 (addr? t).bind fun u=>
 (i.st u.1 (u.2+1) [.int .i64 s]).bind fun v=>
 ((v.ld e.2.next 1).bind asS).bind fun w=>
 cond (!(eqT w ⟨#[]⟩)) (
 (v.ldN e.2.next 0 5).bind fun x=>
 (za0 x 5).bind fun y=>
 let z:SS:=v.new (.cells (y++([])) 5)
 (z.app 5 88 out' (.slice (some ⟨v.next,0,none⟩) 1 1)).bind fun A=>
 lf 6 [t3',tokens',p',A.1] A.2) (
 ((v.ld e.2.next 2).bind asS).bind fun B=>
 cond (!(eqT B ⟨#[]⟩)) (
 (v.ldN e.2.next 0 5).bind fun C=>
 (za0 C 5).bind fun D=>
 let E:SS:=v.new (.cells (D++([])) 5)
 (E.app 5 88 out' (.slice (some ⟨v.next,0,none⟩) 1 1)).bind fun F=>
 lf 6 [t3',tokens',p',F.1] F.2) (
 (v.ld e.2.next 4).bind fun G=>
 ((lenV G).bind (asI .i64)).bind fun H=>
 cond (decide (0<H)) (
 (v.ldN e.2.next 0 5).bind fun I=>
 (za0 I 5).bind fun J=>
 let K:SS:=v.new (.cells (J++([])) 5)
 (K.app 5 88 out' (.slice (some ⟨v.next,0,none⟩) 1 1)).bind fun L=>
 lf 6 [t3',tokens',p',L.1] L.2) (
 lf 6 [t3',tokens',p',out'] v))))) (
 some (0,[t3',out'],st))
theorem zdw [Sym] (t3':Value) (tokens':Value) (p':Value) (out':Value) (st:SS) {r:Nat×List Value×SS} (h:zca cc zbU t3' tokens' p' out' st=some r):zbU 6 [t3',tokens',p',out'] st=some r:=
 zaw zai zal (key:=6) (I:=zin) rfl (by kernel_rfl) (by kernel_rfl) rfl rfl (.trans (by kernel_rfl) h)
end Go.Proofs.YtifploedaacedaaGreatDoorE
namespace Go.Proofs.YtifploedaacedaaGreatDoorE
open Go Go.E Go.Proofs
theorem zax (b k:Nat):zaj (ptr b k)=some (ptr b k):=rfl
structure PHas (st:SS) (b:Nat) (v:Value) (us:List (Nat×Tok)) (i:Nat):Prop where
 mem:st.mem.get b=some (.cells [v,.int .i64 i] 0)
 lt:b<st.next
 rd:Rd st v (rowsL us) 5 us.length
 sz:us.length≤1099511627776
theorem PHas.ext {st st':SS} {b i:Nat} {v:Value} {us:List (Nat×Tok)} (h:PHas st b v us i) (x:Ext st st'):PHas st' b v us i:=
 ⟨x.get h.lt h.mem,zll h.lt x.next,h.rd.ext x,h.sz⟩
theorem PHas.ro {st:SS} {b i n:Nat} {v:Value} {us:List (Nat×Tok)} (h:PHas st b v us i):PHas (st.ro n) b v us i:=⟨h.mem,h.lt,h.rd,h.sz⟩
structure PAt (st:SS) (b:Nat) (v:Value) (us:List (Nat×Tok)) (i:Nat):Prop where
 blk:At st b [v,.int .i64 i]
 rd:Rd st v (rowsL us) 5 us.length
 vb:∀ j k l q,v=.slice (some ⟨j,k,none⟩) l q→j<b
 sz:us.length≤1099511627776
 ll:st.lim≤st.next
section
variable {S : List Nat} {st st' : SS} {b i : Nat} {v : Value} {us : List (Nat × Tok)}
theorem PAt.has (h:PAt st b v us i):PHas st b v us i:=⟨h.blk.mem,h.blk.lt,h.rd,h.sz⟩
theorem PAt.mod (h:PAt st b v us i) (m:Mod S st st') (hS:∀ j,j∈S→b<j):PAt st' b v us i:=
 ⟨h.blk.mod m (fun hm=>by have:=hS b hm;omega),h.rd.mod m (fun j k l q e hm=>by have:=hS j hm;have:=h.vb j k l q e;omega),h.vb,h.sz,m.ll h.ll⟩
theorem PAt.ext (h:PAt st b v us i) (x:Ext st st'):PAt st' b v us i:=h.mod (S:=[]) (.ofExt x) (fun _ hj=>by cases hj)
theorem PAt.modI {j:Nat} (h:PAt st b v us i) (m:Mod [j] st st') (hj:b<j):PAt st' b v us i:=h.mod m fun k hk=>(show k=j by simpa using hk) ▸ hj
theorem PAt.move (h:PAt st b v us i) (i':Nat):∃ st',st.st b 1 [.int .i64 i']=some st'∧PAt st' b v us i'∧Mod [b] st st'∧st'.next=st.next:=by
 obtain ⟨st',e,a,m,n⟩:=h.blk.sto (k:=1) (vs:=[.int .i64 i']) (row':=[v,.int .i64 i']) rfl rfl
 exact ⟨st',e,⟨a,h.rd.mod m (fun j k l q e hm=>by have:j=b:=by simpa using hm
                                                  have:=h.vb j k l q e;omega),h.vb,h.sz,m.ll h.ll⟩,m,n⟩
end
abbrev Z5:List Value:=[.int .i64 0,.string ⟨#[]⟩,.int .i64 0,.int .i64 0,.int .i64 0]
theorem zcT [Sym] {st:SS} {b i:Nat} {v:Value} {us:List (Nat×Tok)} (h:PHas st b v us i) {t:Nat×Tok} (ht:us[i]?=some t):
  ∃ n,st.next≤n∧cc 69 [ptr b 0] st=some (.agg (zbc t.1 t.2).toArray,st.adv n):=by
 obtain ⟨st10,e10,a10,x10,_⟩:=zaP (st:=st.ro st.next) (zlr _) (r:=Z5) (zaB (zbc t.1 t.2)) (n:=5) rfl rfl rfl
 have h1:=(h.ro (n:=st.next)).ext ((Ext.refl (st.ro st.next)).new (.cells Z5 0))
 have hlt:(i:Int)<(us.length:Int):=by have:=(List.getElem?_eq_some_iff.1 ht).1;omega
 obtain ⟨q,b1,b2,_⟩:=h1.rd.load (j:=(i:Int)) (by omega) hlt (zi3 us i t ht) rfl
 have l0:((st.ro st.next).new (.cells Z5 0)).ld b 0=some v:=by rw [SS.ld_cells h1.mem];rfl
 have l1:((st.ro st.next).new (.cells Z5 0)).ld b 1=some (.int .i64 i):=by rw [SS.ld_cells h1.mem];rfl
 have hr:st10.rdN (st.ro st.next).next 0 5=some (.agg (zbc t.1 t.2).toArray):=a10.rdN rfl
 refine ⟨st10.next,x10.next,zkS _ st ?_⟩
 have e10':((st.ro st.next).new (.cells Z5 0)).stV st.next 0 5 (.agg (zbc t.1 t.2).toArray)=some st10:=e10
 have hr':st10.rdN st.next 0 5=some (.agg (zbc t.1 t.2).toArray):=hr
 simp only [zhv,SS.ro_next,zax,zob,zab,l0,Nat.zero_add,l1,zaa,b1,b2,e10',hr']
 rfl
theorem zc7 {ln:Nat} {t:Tok}:(zd2 Lk0 150 0 (.agg (zbc ln t).toArray)).bind (asI .i64)=some (t.kd:Int)∧(zd2 Lk0 150 1 (.agg (zbc ln t).toArray)).bind asS=some (mkS t.tx)∧
  (zd2 Lk0 150 3 (.agg (zbc ln t).toArray)).bind (asI .i64)=some (ln:Int)∧(zd2 Lk0 150 4 (.agg (zbc ln t).toArray)).bind (asI .i64)=some (t.col:Int):=⟨by kernel_rfl,by kernel_rfl,by kernel_rfl,by kernel_rfl⟩
theorem zxm [Sym] {st:SS} {b i:Nat} {v:Value} {us:List (Nat×Tok)} (h:PHas st b v us i) {t u:Nat×Tok} (ht:us[i]?=some t) (hu:us[if t.2.kd=0 then i else i+1]?=some u):
  ∃ n,st.next≤n∧cc 91 [ptr b 0] st=some (.agg (zbc u.1 u.2).toArray,st.adv n):=by
 have h1:=(h.ro (n:=st.next)).ext ((Ext.refl (st.ro st.next)).new (.cells Z5 0))
 obtain ⟨n,hn,c1⟩:=zcT h1 ht
 have a0:At ((st.ro st.next).new (.cells Z5 0)) st.next Z5:=At.new (st:=st.ro st.next) (zlr _) Z5
 have h2:=h1.ext (Ext.advR _ hn)
 have a2:=a0.adv hn
 by_cases hk:t.2.kd=0
 ·rw [if_pos hk,ht] at hu
  cases hu
  obtain ⟨m,hm,c2⟩:=zcT h2 ht
  have a3:=a2.adv hm
  obtain ⟨st5,e5,a5,m5,n5⟩:=a3.stV (k:=0) (zaB (zbc t.1 t.2)) (n:=5) rfl rfl (row':=zbc t.1 t.2) rfl
  have hr:st5.rdN st.next 0 5=some (.agg (zbc t.1 t.2).toArray):=a5.rdN rfl
  have hk':(t.2.kd:Int)=0:=by omega
  have hle:st.next≤st5.next:=by rw [n5];simp at hn hm ⊢;omega
  refine ⟨st5.next,hle,zfX _ st ?_⟩
  simp only [zeN,SS.ro_next,c1,c2,zob,zc7.1,zdt hk',zct,e5,hr]
  rfl
 ·rw [if_neg hk] at hu
  have hlt:((i+1:Nat):Int)<(us.length:Int):=by have:=(List.getElem?_eq_some_iff.1 hu).1;omega
  obtain ⟨q,b1,b2,_⟩:=h2.rd.load (j:=((i+1:Nat):Int)) (by omega) hlt (zi3 us (i+1) u hu) rfl
  have hk':¬ (t.2.kd:Int)=0:=by omega
  obtain ⟨st5,e5,a5,m5,n5⟩:=a2.stV (k:=0) (zaB (zbc u.1 u.2)) (n:=5) rfl rfl (row':=zbc u.1 u.2) rfl
  have hr:st5.rdN st.next 0 5=some (.agg (zbc u.1 u.2).toArray):=a5.rdN rfl
  have l0:(((st.ro st.next).new (.cells Z5 0)).adv n).ld b 0=some v:=by rw [SS.ld_cells h2.mem];rfl
  have l1:(((st.ro st.next).new (.cells Z5 0)).adv n).ld b 1=some (.int .i64 i):=by rw [SS.ld_cells h2.mem];rfl
  have hw:IntKind.wrap .i64 ((i:Int)+1)=((i+1:Nat):Int):=by have:=h.sz;rw [wrap64 (by omega) (by omega)];omega
  have hle:st.next≤st5.next:=by rw [n5];simp at hn ⊢;omega
  refine ⟨st5.next,hle,zfX _ st ?_⟩
  simp only [zeN,SS.ro_next,c1,zob,zc7.1,zdf hk',zcf,zax,zab,l0,Nat.zero_add,l1,zaa,hw,b1,b2,e5,hr]
  rfl
theorem zpd {st:SS} {n:Nat} (hl:st.lim≤n) (t:Nat×Tok):∃ st',((st.adv n).new (.cells Z5 0)).stV n 0 5 (.agg (zbc t.1 t.2).toArray)=some st'∧At st' n (zbc t.1 t.2)∧Ext (st.adv n) st':=by
 obtain ⟨st',a,b,c,_⟩:=zaP (st:=st.adv n) hl (r:=Z5) (zaB (zbc t.1 t.2)) (n:=5) rfl rfl rfl
 exact ⟨st',a,b,c⟩
theorem zch (a b:List UInt8):eqT (mkS a) (mkS b)=decide (a=b):=by rw [zfN,zby,zby]
theorem zkT [Sym] {st:SS} {b i:Nat} {v:Value} {us:List (Nat×Tok)} (h:PAt st b v us i) {t:Nat×Tok} (ht:us[i]?=some t) (sg:List UInt8):
  ∃ st',cc 92 [ptr b 0,.string (mkS sg)] st=some (.bool (zaO t.2 sg),st')∧Mod [b] st st'∧PAt st' b v us (if zaO t.2 sg=true then i+1 else i):=by
 obtain ⟨n,hn,h1⟩:=zcT h.has ht
 obtain ⟨st3,e3,a3,x3⟩:=zpd (st:=st) (n:=n) (zlt h.ll hn) t
 have x:Ext st st3:=(Ext.advR st hn).trans x3
 have hp:=h.ext x
 have k0:st3.ld n 0=some (.int .i64 t.2.kd):=a3.ld
 have k1:st3.ld n 1=some (.string (mkS t.2.tx)):=a3.ld
 have hi:=(List.getElem?_eq_some_iff.1 ht).1
 have hsz:=h.sz
 by_cases hk:t.2.kd=3
 ·have hk':(t.2.kd:Int)=3:=by omega
  by_cases hx:t.2.tx=sg
  ·have hs:zaO t.2 sg=true:=by simp [zaO,hk,hx]
   obtain ⟨st4,e4,p4,m4,_⟩:=hp.move (i+1)
   have hl1:st3.ld b 1=some (.int .i64 i):=hp.blk.ld
   rw [hs]
   refine ⟨st4,zdD _ _ st ?_,(Mod.ofExt x).then m4,p4⟩
   simp only [zdi,h1,zob,SS.adv_next,e3,k0,k1,zaa,zad,zdt hk',znt,zcf,zch,zdt hx,zax,zab,Nat.zero_add,hl1,zaR (show i≤1099511627776 by omega),e4]
  ·have hs:zaO t.2 sg=false:=by simp [zaO,hk,hx]
   rw [hs]
   refine ⟨st3,zdD _ _ st ?_,.ofExt x,hp⟩
   simp only [zdi,h1,zob,SS.adv_next,e3,k0,k1,zaa,zad,zdt hk',znt,zcf,zch,zdf hx,znf,zct]
 ·have hk':¬ (t.2.kd:Int)=3:=by omega
  have hs:zaO t.2 sg=false:=by simp [zaO,hk]
  rw [hs]
  refine ⟨st3,zdD _ _ st ?_,.ofExt x,hp⟩
  simp only [zdi,h1,zob,SS.adv_next,e3,k0,zaa,zdf hk',znf,zct]
theorem zsx [Sym] {st:SS} {b i:Nat} {v:Value} {us:List (Nat×Tok)} (h:PAt st b v us i) {t:Nat×Tok} (ht:us[i]?=some t):
  ∃ st',cc 93 [ptr b 0] st=some (.tuple #[.string (mkS (if t.2.kd=1 then t.2.tx else [])),.bool (decide (t.2.kd=1))],st')∧Mod [b] st st'∧PAt st' b v us (if t.2.kd=1 then i+1 else i):=by
 obtain ⟨n,hn,h1⟩:=zcT h.has ht
 obtain ⟨st3,e3,a3,x3⟩:=zpd (st:=st) (n:=n) (zlt h.ll hn) t
 have x:Ext st st3:=(Ext.advR st hn).trans x3
 have hp:=h.ext x
 have k0:st3.ld n 0=some (.int .i64 t.2.kd):=a3.ld
 have hi:=(List.getElem?_eq_some_iff.1 ht).1
 have hsz:=h.sz
 by_cases hk:t.2.kd=1
 ·have hk':(t.2.kd:Int)=1:=by omega
  obtain ⟨st4,e4,p4,m4,_⟩:=hp.move (i+1)
  have hl1:st3.ld b 1=some (.int .i64 i):=hp.blk.ld
  have hne:n≠b:=by have:=h.blk.lt;omega
  have k1:st4.ld n 1=some (.string (mkS t.2.tx)):=(a3.mod m4 (by simpa using hne)).ld
  rw [if_pos hk,if_pos hk,zdt hk]
  refine ⟨st4,zfY _ st ?_,(Mod.ofExt x).then m4,p4⟩
  simp only [zeO,h1,zob,SS.adv_next,e3,k0,zaa,zdt hk',znt,zcf,zax,zab,Nat.zero_add,hl1,zaR (show i≤1099511627776 by omega),e4,k1,zad]
 ·have hk':¬ (t.2.kd:Int)=1:=by omega
  rw [if_neg hk,if_neg hk,zdf hk]
  refine ⟨st3,zfY _ st ?_,.ofExt x,hp⟩
  simp only [zeO,h1,zob,SS.adv_next,e3,k0,zaa,zdf hk',znf,zct]
  rfl
theorem zkU [Sym] {st:SS} {b i:Nat} {v:Value} {us:List (Nat×Tok)} (h:PAt st b v us i) {t:Nat×Tok} (ht:us[i]?=some t):
  ∃ st',cc 111 [ptr b 0] st=some (.tuple #[.int .i64 (if t.2.kd=2 then t.2.nm else 0),.bool (decide (t.2.kd=2))],st')∧Mod [b] st st'∧PAt st' b v us (if t.2.kd=2 then i+1 else i):=by
 obtain ⟨n,hn,h1⟩:=zcT h.has ht
 obtain ⟨st3,e3,a3,x3⟩:=zpd (st:=st) (n:=n) (zlt h.ll hn) t
 have x:Ext st st3:=(Ext.advR st hn).trans x3
 have hp:=h.ext x
 have k0:st3.ld n 0=some (.int .i64 t.2.kd):=a3.ld
 have hi:=(List.getElem?_eq_some_iff.1 ht).1
 have hsz:=h.sz
 by_cases hk:t.2.kd=2
 ·have hk':(t.2.kd:Int)=2:=by omega
  obtain ⟨st4,e4,p4,m4,_⟩:=hp.move (i+1)
  have hl1:st3.ld b 1=some (.int .i64 i):=hp.blk.ld
  have hne:n≠b:=by have:=h.blk.lt;omega
  have k1:st4.ld n 2=some (.int .i64 t.2.nm):=(a3.mod m4 (by simpa using hne)).ld
  rw [if_pos hk,if_pos hk,zdt hk]
  refine ⟨st4,ze9 _ st ?_,(Mod.ofExt x).then m4,p4⟩
  simp only [zd9,h1,zob,SS.adv_next,e3,k0,zaa,zdt hk',znt,zcf,zax,zab,Nat.zero_add,hl1,zaR (show i≤1099511627776 by omega),e4,k1]
 ·have hk':¬ (t.2.kd:Int)=2:=by omega
  rw [if_neg hk,if_neg hk,zdf hk]
  refine ⟨st3,ze9 _ st ?_,.ofExt x,hp⟩
  simp only [zd9,h1,zob,SS.adv_next,e3,k0,zaa,zdf hk',znf,zct]
structure LineAt (us:List (Nat×Tok)) (i ln:Nat) (l:List Tok):Prop where
 drop:∃ rest,us.drop i=(l.map fun t=>(ln,t))++rest
 lin:Lin l
 ok:∀ t∈l,TokOk t
theorem LineAt.head {us:List (Nat×Tok)} {i ln:Nat} {t:Tok} {r:List Tok} (h:LineAt us i ln (t::r)):us[i]?=some (ln,t):=by
 obtain ⟨rest,hr⟩:=h.drop
 have:=congrArg (·[0]?) hr
 simpa using this
theorem LineAt.tail {us:List (Nat×Tok)} {i ln:Nat} {t:Tok} {r:List Tok} (h:LineAt us i ln (t::r)) (hk:t.kd≠0):LineAt us (i+1) ln r:=by
 refine ⟨?_,h.lin.tail hk,fun u hu=>h.ok u (List.mem_cons_of_mem _ hu)⟩
 obtain ⟨rest,hr⟩:=h.drop
 refine ⟨rest,?_⟩
 have:=drop_cons h.head
 rw [hr] at this
 exact (List.cons.inj this).2.symm
theorem LineAt.tok {us:List (Nat×Tok)} {i ln:Nat} {t:Tok} {r:List Tok} (h:LineAt us i ln (t::r)):TokOk t:=h.ok t (List.mem_cons_self ..)
end Go.Proofs.YtifploedaacedaaGreatDoorE
namespace Go.Proofs.YtifploedaacedaaGreatDoorE
set_option maxRecDepth 20000
open Go Go.E Go.Proofs
noncomputable def zl3 (cf:zak) (lf:zac) (s':ByteArray) (cutset':ByteArray) (st:SS):Option (Value×SS):=
 cond (eqT s' ⟨#[]⟩) (
 some (.string s',st.adv (st.ro st.next).next)) (
 cond (eqT cutset' ⟨#[]⟩) (
 some (.string s',st.adv (st.ro st.next).next)) (
 cond (decide ((cutset'.size:Int)=1)) (
 ((zcB cutset' 0).bind (asI .u8)).bind fun a=>
 cond (decide (a<128)) (
 ((zcB cutset' 0).bind (asI .u8)).bind fun b=>
 (cf 121 [.string s',.int .u8 b] (st.ro st.next)).bind fun c=>
 ((some c.1).bind asS).bind fun d=>
 ((zcB cutset' 0).bind (asI .u8)).bind fun e=>
 (cf 120 [.string d,.int .u8 e] c.2).bind fun f=>
 ((some f.1).bind asS).bind fun g=>
 some (.string g,st.adv f.2.next)) (
 (cf 122 [.string cutset'] (st.ro st.next)).bind fun h=>
 (zar h.1 0).bind fun i=>
 ((zar h.1 1).bind asB).bind fun j=>
 let k:SS:=h.2.new (.cells [.bool false,.bool false,.bool false,.bool false,.bool false,.bool false,.bool false,.bool false,.bool false,.bool false,.bool false,.bool false,.bool false,.bool false,.bool false,.bool false,.bool false,.bool false,.bool false,.bool false,.bool false,.bool false,.bool false,.bool false,.bool false,.bool false,.bool false,.bool false,.bool false,.bool false,.bool false,.bool false,.bool false,.bool false,.bool false,.bool false,.bool false,.bool false,.bool false,.bool false,.bool false,.bool false,.bool false,.bool false,.bool false,.bool false,.bool false,.bool false,.bool false,.bool false,.bool false,.bool false,.bool false,.bool false,.bool false,.bool false,.bool false,.bool false,.bool false,.bool false,.bool false,.bool false,.bool false,.bool false,.bool false,.bool false,.bool false,.bool false,.bool false,.bool false,.bool false,.bool false,.bool false,.bool false,.bool false,.bool false,.bool false,.bool false,.bool false,.bool false,.bool false,.bool false,.bool false,.bool false,.bool false,.bool false,.bool false,.bool false,.bool false,.bool false,.bool false,.bool false,.bool false,.bool false,.bool false,.bool false,.bool false,.bool false,.bool false,.bool false,.bool false,.bool false,.bool false,.bool false,.bool false,.bool false,.bool false,.bool false,.bool false,.bool false,.bool false,.bool false,.bool false,.bool false,.bool false,.bool false,.bool false,.bool false,.bool false,.bool false,.bool false,.bool false,.bool false,.bool false,.bool false,.bool false,.bool false,.bool false,.bool false,.bool false,.bool false,.bool false,.bool false,.bool false,.bool false,.bool false,.bool false,.bool false,.bool false,.bool false,.bool false,.bool false,.bool false,.bool false,.bool false,.bool false,.bool false,.bool false,.bool false,.bool false,.bool false,.bool false,.bool false,.bool false,.bool false,.bool false,.bool false,.bool false,.bool false,.bool false,.bool false,.bool false,.bool false,.bool false,.bool false,.bool false,.bool false,.bool false,.bool false,.bool false,.bool false,.bool false,.bool false,.bool false,.bool false,.bool false,.bool false,.bool false,.bool false,.bool false,.bool false,.bool false,.bool false,.bool false,.bool false,.bool false,.bool false,.bool false,.bool false,.bool false,.bool false,.bool false,.bool false,.bool false,.bool false,.bool false,.bool false,.bool false,.bool false,.bool false,.bool false,.bool false,.bool false,.bool false,.bool false,.bool false,.bool false,.bool false,.bool false,.bool false,.bool false,.bool false,.bool false,.bool false,.bool false,.bool false,.bool false,.bool false,.bool false,.bool false,.bool false,.bool false,.bool false,.bool false,.bool false,.bool false,.bool false,.bool false,.bool false,.bool false,.bool false,.bool false,.bool false,.bool false,.bool false,.bool false,.bool false,.bool false,.bool false,.bool false,.bool false,.bool false,.bool false,.bool false,.bool false,.bool false,.bool false,.bool false,.bool false,.bool false,.bool false,.bool false,.bool false,.bool false,.bool false,.bool false] 0)
 (k.stV h.2.next 0 256 i).bind fun l=>
 cond j (
 (cf 124 [.string s',ptr h.2.next 0] l).bind fun m=>
 ((some m.1).bind asS).bind fun n=>
 (cf 123 [.string n,ptr h.2.next 0] m.2).bind fun o=>
 ((some o.1).bind asS).bind fun p=>
 some (.string p,st.adv o.2.next)) (
 (cf 126 [.string s',.string cutset'] l).bind fun q=>
 ((some q.1).bind asS).bind fun r=>
 (cf 125 [.string r,.string cutset'] q.2).bind fun s=>
 ((some s.1).bind asS).bind fun t=>
 some (.string t,st.adv s.2.next)))) (
 (cf 122 [.string cutset'] (st.ro st.next)).bind fun u=>
 (zar u.1 0).bind fun v=>
 ((zar u.1 1).bind asB).bind fun w=>
 let x:SS:=u.2.new (.cells [.bool false,.bool false,.bool false,.bool false,.bool false,.bool false,.bool false,.bool false,.bool false,.bool false,.bool false,.bool false,.bool false,.bool false,.bool false,.bool false,.bool false,.bool false,.bool false,.bool false,.bool false,.bool false,.bool false,.bool false,.bool false,.bool false,.bool false,.bool false,.bool false,.bool false,.bool false,.bool false,.bool false,.bool false,.bool false,.bool false,.bool false,.bool false,.bool false,.bool false,.bool false,.bool false,.bool false,.bool false,.bool false,.bool false,.bool false,.bool false,.bool false,.bool false,.bool false,.bool false,.bool false,.bool false,.bool false,.bool false,.bool false,.bool false,.bool false,.bool false,.bool false,.bool false,.bool false,.bool false,.bool false,.bool false,.bool false,.bool false,.bool false,.bool false,.bool false,.bool false,.bool false,.bool false,.bool false,.bool false,.bool false,.bool false,.bool false,.bool false,.bool false,.bool false,.bool false,.bool false,.bool false,.bool false,.bool false,.bool false,.bool false,.bool false,.bool false,.bool false,.bool false,.bool false,.bool false,.bool false,.bool false,.bool false,.bool false,.bool false,.bool false,.bool false,.bool false,.bool false,.bool false,.bool false,.bool false,.bool false,.bool false,.bool false,.bool false,.bool false,.bool false,.bool false,.bool false,.bool false,.bool false,.bool false,.bool false,.bool false,.bool false,.bool false,.bool false,.bool false,.bool false,.bool false,.bool false,.bool false,.bool false,.bool false,.bool false,.bool false,.bool false,.bool false,.bool false,.bool false,.bool false,.bool false,.bool false,.bool false,.bool false,.bool false,.bool false,.bool false,.bool false,.bool false,.bool false,.bool false,.bool false,.bool false,.bool false,.bool false,.bool false,.bool false,.bool false,.bool false,.bool false,.bool false,.bool false,.bool false,.bool false,.bool false,.bool false,.bool false,.bool false,.bool false,.bool false,.bool false,.bool false,.bool false,.bool false,.bool false,.bool false,.bool false,.bool false,.bool false,.bool false,.bool false,.bool false,.bool false,.bool false,.bool false,.bool false,.bool false,.bool false,.bool false,.bool false,.bool false,.bool false,.bool false,.bool false,.bool false,.bool false,.bool false,.bool false,.bool false,.bool false,.bool false,.bool false,.bool false,.bool false,.bool false,.bool false,.bool false,.bool false,.bool false,.bool false,.bool false,.bool false,.bool false,.bool false,.bool false,.bool false,.bool false,.bool false,.bool false,.bool false,.bool false,.bool false,.bool false,.bool false,.bool false,.bool false,.bool false,.bool false,.bool false,.bool false,.bool false,.bool false,.bool false,.bool false,.bool false,.bool false,.bool false,.bool false,.bool false,.bool false,.bool false,.bool false,.bool false,.bool false,.bool false,.bool false,.bool false,.bool false,.bool false,.bool false,.bool false,.bool false,.bool false,.bool false,.bool false,.bool false,.bool false,.bool false,.bool false] 0)
 (x.stV u.2.next 0 256 v).bind fun y=>
 cond w (
 (cf 124 [.string s',ptr u.2.next 0] y).bind fun z=>
 ((some z.1).bind asS).bind fun A=>
 (cf 123 [.string A,ptr u.2.next 0] z.2).bind fun B=>
 ((some B.1).bind asS).bind fun C=>
 some (.string C,st.adv B.2.next)) (
 (cf 126 [.string s',.string cutset'] y).bind fun D=>
 ((some D.1).bind asS).bind fun E=>
 (cf 125 [.string E,.string cutset'] D.2).bind fun F=>
 ((some F.1).bind asS).bind fun G=>
 some (.string G,st.adv F.2.next)))))
noncomputable abbrev zou:zac:=lS Tryz.prog Lk0 Tryz.f103 zaz
theorem zov:Lk0.func 103=some (103,Tryz.f103):=by kernel_rfl
theorem zow [Sym] (s':ByteArray) (cutset':ByteArray) (st:SS) {r:Value×SS} (h:zl3 cc zou s' cutset' st=some r):cc 103 [.string s',.string cutset'] st=some r:=
 zaf (li:=zaz) zai zal zov rfl (fun _=>rfl) (.trans (by kernel_rfl) h)
def zeP:LoopI:=⟨[(0,.str),(2,.any),(4,.int .i64)],[(.exit 0,[(2,.any)]),(.ret,[(2,.any),(3,.bool)])]⟩
def zfc (n:Nat):Option LoopI:=cond (Nat.beq n 2) (some zeP) (none)
noncomputable def strings_makeASCIISet (cf:zak) (lf:zac) (chars':ByteArray) (st:SS):Option (Value×SS):=
 let a:SS:=(st.ro st.next).new (.cells [.bool false,.bool false,.bool false,.bool false,.bool false,.bool false,.bool false,.bool false,.bool false,.bool false,.bool false,.bool false,.bool false,.bool false,.bool false,.bool false,.bool false,.bool false,.bool false,.bool false,.bool false,.bool false,.bool false,.bool false,.bool false,.bool false,.bool false,.bool false,.bool false,.bool false,.bool false,.bool false,.bool false,.bool false,.bool false,.bool false,.bool false,.bool false,.bool false,.bool false,.bool false,.bool false,.bool false,.bool false,.bool false,.bool false,.bool false,.bool false,.bool false,.bool false,.bool false,.bool false,.bool false,.bool false,.bool false,.bool false,.bool false,.bool false,.bool false,.bool false,.bool false,.bool false,.bool false,.bool false,.bool false,.bool false,.bool false,.bool false,.bool false,.bool false,.bool false,.bool false,.bool false,.bool false,.bool false,.bool false,.bool false,.bool false,.bool false,.bool false,.bool false,.bool false,.bool false,.bool false,.bool false,.bool false,.bool false,.bool false,.bool false,.bool false,.bool false,.bool false,.bool false,.bool false,.bool false,.bool false,.bool false,.bool false,.bool false,.bool false,.bool false,.bool false,.bool false,.bool false,.bool false,.bool false,.bool false,.bool false,.bool false,.bool false,.bool false,.bool false,.bool false,.bool false,.bool false,.bool false,.bool false,.bool false,.bool false,.bool false,.bool false,.bool false,.bool false,.bool false,.bool false,.bool false,.bool false,.bool false,.bool false,.bool false,.bool false,.bool false,.bool false,.bool false,.bool false,.bool false,.bool false,.bool false,.bool false,.bool false,.bool false,.bool false,.bool false,.bool false,.bool false,.bool false,.bool false,.bool false,.bool false,.bool false,.bool false,.bool false,.bool false,.bool false,.bool false,.bool false,.bool false,.bool false,.bool false,.bool false,.bool false,.bool false,.bool false,.bool false,.bool false,.bool false,.bool false,.bool false,.bool false,.bool false,.bool false,.bool false,.bool false,.bool false,.bool false,.bool false,.bool false,.bool false,.bool false,.bool false,.bool false,.bool false,.bool false,.bool false,.bool false,.bool false,.bool false,.bool false,.bool false,.bool false,.bool false,.bool false,.bool false,.bool false,.bool false,.bool false,.bool false,.bool false,.bool false,.bool false,.bool false,.bool false,.bool false,.bool false,.bool false,.bool false,.bool false,.bool false,.bool false,.bool false,.bool false,.bool false,.bool false,.bool false,.bool false,.bool false,.bool false,.bool false,.bool false,.bool false,.bool false,.bool false,.bool false,.bool false,.bool false,.bool false,.bool false,.bool false,.bool false,.bool false,.bool false,.bool false,.bool false,.bool false,.bool false,.bool false,.bool false,.bool false,.bool false,.bool false,.bool false,.bool false,.bool false,.bool false,.bool false,.bool false,.bool false,.bool false,.bool false,.bool false,.bool false,.bool false,.bool false,.bool false,.bool false,.bool false] 0)
 (lf 2 [.string chars',ptr ((st.ro st.next).next) 0,.int .i64 0] a).bind fun b=>
 cond (Nat.beq b.1 0) (
 (b.2.1[0]?).bind fun c=>
 (addr? c).bind fun d=>
 (b.2.2.ldN d.1 d.2 256).bind fun e=>
 (addr? c).bind fun f=>
 (b.2.2.stV f.1 f.2 256 e).bind fun g=>
 (addr? c).bind fun h=>
 (g.rdN h.1 h.2 256).bind fun i=>
 cond (flat3 (.tuple #[i,.bool true])) (some (.tuple #[i,.bool true],st.adv g.next)) none) (
 (b.2.1[0]?).bind fun j=>
 ((b.2.1[1]?).bind asB).bind fun k=>
 (addr? j).bind fun l=>
 (b.2.2.rdN l.1 l.2 256).bind fun m=>
 cond (flat3 (.tuple #[m,.bool k])) (some (.tuple #[m,.bool k],st.adv b.2.2.next)) none)
noncomputable abbrev zbO:zac:=lS Tryz.prog Lk0 Tryz.f122 zfc
theorem ziN:Lk0.func 122=some (122,Tryz.f122):=by kernel_rfl
theorem ziO [Sym] (chars':ByteArray) (st:SS) {r:Value×SS} (h:strings_makeASCIISet cc zbO chars' st=some r):cc 122 [.string chars'] st=some r:=
 zaf (li:=zfc) zai zal ziN rfl (fun _=>rfl) (.trans (by kernel_rfl) h)
noncomputable def zdm (cf:zak) (lf:zac) (chars':ByteArray) (as':Value) (i':Int) (st:SS):Option (Nat×List Value×SS):=
 cond (decide (i'<(chars'.size:Int))) (
 ((zcB chars' i').bind (asI .u8)).bind fun a=>
 cond (decide (128≤a)) (
 (addr? as').bind fun b=>
 (st.ldN b.1 b.2 256).bind fun c=>
 (addr? as').bind fun d=>
 (st.stV d.1 d.2 256 c).bind fun e=>
 some (1,[as',.bool false],e)) (
 (zaQ as' 256 a 1).bind fun f=>
 (st.st f.1 f.2 [.bool true]).bind fun g=>
 let h:Int:=IntKind.wrap .i64 (i'+1)
 lf 2 [.string chars',as',.int .i64 h] g)) (
 some (0,[as'],st))
theorem zee [Sym] (chars':ByteArray) (as':Value) (i':Int) (st:SS) {r:Nat×List Value×SS} (h:zdm cc zbO chars' as' i' st=some r):zbO 2 [.string chars',as',.int .i64 i'] st=some r:=
 zaw zai zal (key:=2) (I:=zeP) rfl (by kernel_rfl) (by kernel_rfl) rfl rfl (.trans (by kernel_rfl) h)
def zeA:LoopI:=⟨[(0,.str),(1,.any)],[(.exit 0,[(0,.str)])]⟩
def zeQ (n:Nat):Option LoopI:=cond (Nat.beq n 1) (some zeA) (none)
noncomputable def strings_trimLeftASCII (cf:zak) (lf:zac) (s':ByteArray) (as':Value) (st:SS):Option (Value×SS):=
 (lf 1 [.string s',as'] (st.ro st.next)).bind fun a=>
 ((a.2.1[0]?).bind asS).bind fun b=>
 some (.string b,st.adv a.2.2.next)
noncomputable abbrev zcb:zac:=lS Tryz.prog Lk0 Tryz.f123 zeQ
theorem zio:Lk0.func 123=some (123,Tryz.f123):=by kernel_rfl
theorem ziq [Sym] (s':ByteArray) (as':Value) (st:SS) {r:Value×SS} (h:strings_trimLeftASCII cc zcb s' as' st=some r):cc 123 [.string s',as'] st=some r:=
 zaf (li:=zeQ) zai zal zio rfl (fun _=>rfl) (.trans (by kernel_rfl) h)
noncomputable def zcc (cf:zak) (lf:zac) (s':ByteArray) (as':Value) (st:SS):Option (Nat×List Value×SS):=
 cond (decide (0<(s'.size:Int))) (
 ((zcB s' 0).bind (asI .u8)).bind fun a=>
 (cf 138 [as',.int .u8 a] st).bind fun b=>
 ((some b.1).bind asB).bind fun c=>
 cond (!c) (
 some (0,[.string s'],b.2)) (
 (zcA s' 1 (s'.size:Int)).bind fun d=>
 lf 1 [.string d,as'] b.2)) (
 some (0,[.string s'],st))
theorem zcE [Sym] (s':ByteArray) (as':Value) (st:SS) {r:Nat×List Value×SS} (h:zcc cc zcb s' as' st=some r):zcb 1 [.string s',as'] st=some r:=
 zaw zai zal (key:=1) (I:=zeA) rfl (by kernel_rfl) (by kernel_rfl) rfl rfl (.trans (by kernel_rfl) h)
def zef:LoopI:=⟨[(0,.str),(1,.any)],[(.exit 0,[(0,.str)])]⟩
def zeB (n:Nat):Option LoopI:=cond (Nat.beq n 1) (some zef) (none)
noncomputable def strings_trimRightASCII (cf:zak) (lf:zac) (s':ByteArray) (as':Value) (st:SS):Option (Value×SS):=
 (lf 1 [.string s',as'] (st.ro st.next)).bind fun a=>
 ((a.2.1[0]?).bind asS).bind fun b=>
 some (.string b,st.adv a.2.2.next)
noncomputable abbrev zb6:zac:=lS Tryz.prog Lk0 Tryz.f124 zeB
theorem zhN:Lk0.func 124=some (124,Tryz.f124):=by kernel_rfl
theorem zhO [Sym] (s':ByteArray) (as':Value) (st:SS) {r:Value×SS} (h:strings_trimRightASCII cc zb6 s' as' st=some r):cc 124 [.string s',as'] st=some r:=
 zaf (li:=zeB) zai zal zhN rfl (fun _=>rfl) (.trans (by kernel_rfl) h)
noncomputable def zb7 (cf:zak) (lf:zac) (s':ByteArray) (as':Value) (st:SS):Option (Nat×List Value×SS):=
 cond (decide (0<(s'.size:Int))) (
 let a:Int:=IntKind.wrap .i64 ((s'.size:Int)-1)
 ((zcB s' a).bind (asI .u8)).bind fun b=>
 (cf 138 [as',.int .u8 b] st).bind fun c=>
 ((some c.1).bind asB).bind fun d=>
 cond (!d) (
 some (0,[.string s'],c.2)) (
 let e:Int:=IntKind.wrap .i64 ((s'.size:Int)-1)
 (zcA s' 0 e).bind fun f=>
 lf 1 [.string f,as'] c.2)) (
 some (0,[.string s'],st))
theorem zcp [Sym] (s':ByteArray) (as':Value) (st:SS) {r:Nat×List Value×SS} (h:zb7 cc zb6 s' as' st=some r):zb6 1 [.string s',as'] st=some r:=
 zaw zai zal (key:=1) (I:=zef) rfl (by kernel_rfl) (by kernel_rfl) rfl rfl (.trans (by kernel_rfl) h)
noncomputable def zeC (cf:zak) (lf:zac) (as':Value) (c':Int) (st:SS):Option (Value×SS):=
 (zaj as').bind fun a=>
 (zaQ a 256 c' 1).bind fun b=>
 (((st.ro st.next).ld b.1 b.2).bind asB).bind fun c=>
 some (.bool c,st.adv (st.ro st.next).next)
noncomputable abbrev zgS:zac:=lS Tryz.prog Lk0 Tryz.f138 zaz
theorem zgT:Lk0.func 138=some (138,Tryz.f138):=by kernel_rfl
theorem zgU [Sym] (as':Value) (c':Int) (st:SS) {r:Value×SS} (h:zeC cc zgS as' c' st=some r):cc 138 [as',.int .u8 c'] st=some r:=
 zaf (li:=zaz) zai zal zgT rfl (fun _=>rfl) (.trans (by kernel_rfl) h)
noncomputable def zkV (cf:zak) (lf:zac) (s':ByteArray) (st:SS):Option (Value×SS):=
 cond (!(eqT s' ⟨#[]⟩)) (
 cond (decide ((s'.size:Int)≤24)) (
 (cf 103 [.string s',.string ⟨#[97,98,99,100,101,102,103,104,105,106,107,108,109,110,111,112,113,114,115,116,117,118,119,120,121,122,65,66,67,68,69,70,71,72,73,74,75,76,77,78,79,80,81,82,83,84,85,86,87,88,89,90,95,48,49,50,51,52,53,54,55,56,57]⟩] (st.ro st.next)).bind fun a=>
 ((some a.1).bind asS).bind fun b=>
 cond (eqT b ⟨#[]⟩) (
 ((zcB s' 0).bind (asI .u8)).bind fun c=>
 cond (decide (c<48)) (
 some (.bool true,st.adv a.2.next)) (
 ((zcB s' 0).bind (asI .u8)).bind fun d=>
 some (.bool (decide (57<d)),st.adv a.2.next))) (
 some (.bool false,st.adv a.2.next))) (
 some (.bool false,st.adv (st.ro st.next).next))) (
 some (.bool false,st.adv (st.ro st.next).next))
noncomputable abbrev zrT:zac:=lS Tryz.prog Lk0 Tryz.f86 zaz
theorem zrU:Lk0.func 86=some (86,Tryz.f86):=by kernel_rfl
theorem zjn [Sym] (s':ByteArray) (st:SS) {r:Value×SS} (h:zkV cc zrT s' st=some r):cc 86 [.string s'] st=some r:=
 zaf (li:=zaz) zai zal zrU rfl (fun _=>rfl) (.trans (by kernel_rfl) h)
def zl4:LoopI:=⟨[(1,.str),(9,.any),(10,.int .i64),(11,.int .i64)],[(.exit 0,[]),(.ret,[(4,.int .i64),(5,.bool)])]⟩
def zm5 (n:Nat):Option LoopI:=cond (Nat.beq n 2) (some zl4) (none)
noncomputable def znB (cf:zak) (lf:zac) (r':Value) (name':ByteArray) (st:SS):Option (Value×SS):=
 let a:SS:=(st.ro st.next).new (.cells (r':Value).cells.toList 0)
 (a.ld ((st.ro st.next).next) 1).bind fun b=>
 ((lenV b).bind (asI .i64)).bind fun c=>
 (lf 2 [.string name',b,.int .i64 c,.int .i64 0] a).bind fun d=>
 cond (Nat.beq d.1 0) (
 some (.tuple #[.int .i64 0,.bool false],st.adv d.2.2.next)) (
 ((d.2.1[0]?).bind (asI .i64)).bind fun e=>
 ((d.2.1[1]?).bind asB).bind fun f=>
 some (.tuple #[.int .i64 e,.bool f],st.adv d.2.2.next))
noncomputable abbrev zet:zac:=lS Tryz.prog Lk0 Tryz.f64 zm5
theorem zrV:Lk0.func 64=some (64,Tryz.f64):=by kernel_rfl
theorem zrW [Sym] (r':Value) (name':ByteArray) (st:SS) {r:Value×SS} (h:znB cc zet r' name' st=some r):cc 64 [r',.string name'] st=some r:=
 zaf (li:=zm5) zai zal zrV rfl (fun _=>rfl) (.trans (by kernel_rfl) h)
noncomputable def zfs (cf:zak) (lf:zac) (name':ByteArray) (t9':Value) (t10':Int) (t11':Int) (st:SS):Option (Nat×List Value×SS):=
 cond (decide (t11'<t10')) (
 (zam t9' t11' 2).bind fun a=>
 (st.ldN a.1 a.2 2).bind fun b=>
 let c:SS:=st.new (.cells [.string ⟨#[]⟩,.int .i64 0] 0)
 (c.stV st.next 0 2 b).bind fun d=>
 ((d.ld st.next 0).bind asS).bind fun e=>
 cond (eqT e name') (
 ((d.ld st.next 1).bind (asI .i64)).bind fun f=>
 some (1,[.int .i64 f,.bool true],d)) (
 let g:Int:=IntKind.wrap .i64 (t11'+1)
 lf 2 [.string name',t9',.int .i64 t10',.int .i64 g] d)) (
 some (0,[],st))
theorem ze6 [Sym] (name':ByteArray) (t9':Value) (t10':Int) (t11':Int) (st:SS) {r:Nat×List Value×SS} (h:zfs cc zet name' t9' t10' t11' st=some r):zet 2 [.string name',t9',.int .i64 t10',.int .i64 t11'] st=some r:=
 zaw zai zal (key:=2) (I:=zl4) rfl (by kernel_rfl) (by kernel_rfl) rfl rfl (.trans (by kernel_rfl) h)
noncomputable def ztp (cf:zak) (lf:zac) (st:SS):Option (Value×SS):=
 let st1:SS:=st.new (.cells ([.string ⟨#[102,101,116,99,104]⟩,.string ⟨#[111,112,101,114,97,110,100]⟩,.string ⟨#[98,114,97,110,99,104]⟩,.string ⟨#[102,97,117,108,116]⟩,.string ⟨#[105,110,116,101,114,114,117,112,116]⟩]) 1)
 some (.slice (some ⟨st.next,0,none⟩) 5 5,st1)
noncomputable abbrev zqg:zac:=lS Tryz.prog Lk0 Tryz.f63 zaz
theorem zqh:Lk0.func 63=some (63,Tryz.f63):=by kernel_rfl
theorem zqi [Sym] (st:SS) {r:Value×SS} (h:ztp cc zqg st=some r):cc 63 [] st=some r:=
 zaf (li:=zaz) zai zal zqh rfl (fun _=>rfl) (.trans (by kernel_rfl) h)
def zlg:LoopI:=⟨[(1,.any),(4,.any),(58,.any),(59,.int .i64),(60,.int .i64)],[(.exit 4,[(4,.any)]),(.ret,[(2,.any),(3,.int .i64)])]⟩
def zl5:LoopI:=⟨[(1,.any),(4,.any),(7,.any),(20,.any),(21,.int .i64),(22,.int .i64),(31,.any),(32,.int .i64),(33,.int .i64)],[(.exit 2,[(1,.any),(4,.any),(7,.any),(20,.any),(21,.int .i64),(22,.int .i64)]),(.ret,[(2,.any),(3,.int .i64)])]⟩
def zl6:LoopI:=⟨[(1,.any),(4,.any),(20,.any),(21,.int .i64),(22,.int .i64)],[(.exit 0,[(1,.any),(4,.any)]),(.ret,[(2,.any),(3,.int .i64)])]⟩
def zm6 (n:Nat):Option LoopI:=cond (Nat.beq n 5) (some zl6) (cond (Nat.beq n 9) (some zl5) (cond (Nat.beq n 17) (some zlg) (none)))
noncomputable def zir (cf:zak) (lf:zac) (r':Value) (st:SS):Option (Value×SS):=
 let a:SS:=st.new (.cells (r':Value).cells.toList 0)
 (a.ldN st.next 0 2).bind fun b=>
 (cf 61 [b] a).bind fun c=>
 ((some c.1).bind asB).bind fun d=>
 cond (!d) (
 some (.tuple #[.pointer none,.int .i64 4],c.2)) (
 let e:SS:=c.2.new (.cells [.slice none 0 0,.int .i64 0,.int .i64 0,.int .i64 0,.int .i64 0,.int .i64 0,.int .i64 0,.slice none 0 0] 0)
 (e.ld st.next 0).bind fun f=>
 ((lenV f).bind (asI .i64)).bind fun g=>
 (lf 5 [ptr st.next 0,ptr c.2.next 0,f,.int .i64 g,.int .i64 0] e).bind fun h=>
 cond (Nat.beq h.1 0) (
 (h.2.1[0]?).bind fun i=>
 (h.2.1[1]?).bind fun j=>
 (cf 63 [] h.2.2).bind fun k=>
 ((lenV k.1).bind (asI .i64)).bind fun l=>
 (lf 17 [i,j,k.1,.int .i64 l,.int .i64 0] k.2).bind fun m=>
 cond (Nat.beq m.1 0) (
 (m.2.1[0]?).bind fun n=>
 (cf 41 [n,.int .i64 0] m.2.2).bind fun o=>
 some (.tuple #[n,.int .i64 0],o.2)) (
 (m.2.1[0]?).bind fun p=>
 ((m.2.1[1]?).bind (asI .i64)).bind fun q=>
 some (.tuple #[p,.int .i64 q],m.2.2))) (
 (h.2.1[0]?).bind fun r=>
 ((h.2.1[1]?).bind (asI .i64)).bind fun s=>
 some (.tuple #[r,.int .i64 s],h.2.2)))
noncomputable abbrev zaS:zac:=lS Tryz.prog Lk0 Tryz.f37 zm6
theorem zrX:Lk0.func 37=some (37,Tryz.f37):=by kernel_rfl
theorem zg5 [Sym] (r':Value) (st:SS) {r:Value×SS} (h:zir cc zaS r' st=some r):cc 37 [r'] st=some r:=
 zaf (li:=zm6) zai zal zrX rfl (fun _=>rfl) (.trans (by kernel_rfl) h)
noncomputable def zg6 (cf:zak) (lf:zac) (r':Value) (s':Value) (t20':Value) (t21':Int) (t22':Int) (st:SS):Option (Nat×List Value×SS):=
 cond (decide (t22'<t21')) (
 (zam t20' t22' 1).bind fun a=>
 ((st.ld a.1 a.2).bind (asI .u64)).bind fun b=>
 (cf 20 [.int .u64 b] st).bind fun c=>
 let d:SS:=c.2.new (.cells [.int .i64 0,.int .i64 0,.int .i64 0,.int .i64 0,.int .i64 0,.int .i64 0,.int .i64 0,.int .i64 0,.int .i64 0,.int .i64 0,.int .i64 0,.int .i64 0] 0)
 (d.stV c.2.next 0 12 c.1).bind fun e=>
 (e.ldN c.2.next 0 12).bind fun f=>
 (cf 62 [f,.int .i64 t22'] e).bind fun g=>
 ((lenV g.1).bind (asI .i64)).bind fun h=>
 (lf 9 [r',s',ptr c.2.next 0,t20',.int .i64 t21',.int .i64 t22',g.1,.int .i64 h,.int .i64 0] g.2).bind fun i=>
 cond (Nat.beq i.1 0) (
 (i.2.1[0]?).bind fun j=>
 (i.2.1[1]?).bind fun k=>
 (i.2.1[2]?).bind fun l=>
 (i.2.1[3]?).bind fun m=>
 ((i.2.1[4]?).bind (asI .i64)).bind fun n=>
 ((i.2.1[5]?).bind (asI .i64)).bind fun o=>
 (zaj k).bind fun p=>
 (addr? p).bind fun q=>
 (i.2.2.ld q.1 q.2).bind fun r=>
 (addr? l).bind fun s=>
 (i.2.2.ldN s.1 s.2 12).bind fun t=>
 (za0 t 12).bind fun u=>
 let v:SS:=i.2.2.new (.cells (u++([])) 12)
 (v.app 12 96 r (.slice (some ⟨i.2.2.next,0,none⟩) 1 1)).bind fun w=>
 (zaj k).bind fun x=>
 (addr? x).bind fun y=>
 (w.2.stV y.1 y.2 1 w.1).bind fun z=>
 let A:Int:=IntKind.wrap .i64 (o+1)
 lf 5 [j,k,m,.int .i64 n,.int .i64 A] z) (
 (i.2.1[0]?).bind fun B=>
 ((i.2.1[1]?).bind (asI .i64)).bind fun C=>
 some (1,[B,.int .i64 C],i.2.2))) (
 some (0,[r',s'],st))
theorem zgV [Sym] (r':Value) (s':Value) (t20':Value) (t21':Int) (t22':Int) (st:SS) {r:Nat×List Value×SS} (h:zg6 cc zaS r' s' t20' t21' t22' st=some r):zaS 5 [r',s',t20',.int .i64 t21',.int .i64 t22'] st=some r:=
 zaw zai zal (key:=5) (I:=zl6) rfl (by kernel_rfl) (by kernel_rfl) rfl rfl (.trans (by kernel_rfl) h)
noncomputable def zg7 (cf:zak) (lf:zac) (r':Value) (s':Value) (w':Value) (t20':Value) (t21':Int) (t22':Int) (t31':Value) (t32':Int) (t33':Int) (st:SS):Option (Nat×List Value×SS):=
 cond (decide (t33'<t32')) (
 (zam t31' t33' 2).bind fun a=>
 (st.ldN a.1 a.2 2).bind fun b=>
 let c:SS:=st.new (.cells [.int .i64 0,.int .i64 0] 0)
 (c.stV st.next 0 2 b).bind fun d=>
 (zaQ (ptr st.next 0) 2 0 1).bind fun e=>
 ((d.ld e.1 e.2).bind (asI .i64)).bind fun f=>
 (zaQ (ptr st.next 0) 2 1 1).bind fun g=>
 ((d.ld g.1 g.2).bind (asI .i64)).bind fun h=>
 let i:Int:=IntKind.wrap .i64 (f+h)
 (addr? r').bind fun j=>
 (d.ld j.1 j.2).bind fun k=>
 ((lenV k).bind (asI .i64)).bind fun l=>
 cond (decide (l<i)) (
 some (1,[.pointer none,.int .i64 4],d)) (
 let m:Int:=IntKind.wrap .i64 (t33'+1)
 lf 9 [r',s',w',t20',.int .i64 t21',.int .i64 t22',t31',.int .i64 t32',.int .i64 m] d)) (
 some (0,[r',s',w',t20',.int .i64 t21',.int .i64 t22'],st))
theorem zgW [Sym] (r':Value) (s':Value) (w':Value) (t20':Value) (t21':Int) (t22':Int) (t31':Value) (t32':Int) (t33':Int) (st:SS) {r:Nat×List Value×SS} (h:zg7 cc zaS r' s' w' t20' t21' t22' t31' t32' t33' st=some r):zaS 9 [r',s',w',t20',.int .i64 t21',.int .i64 t22',t31',.int .i64 t32',.int .i64 t33'] st=some r:=
 zaw zai zal (key:=9) (I:=zl5) rfl (by kernel_rfl) (by kernel_rfl) rfl rfl (.trans (by kernel_rfl) h)
noncomputable def zgl (cf:zak) (lf:zac) (r':Value) (s':Value) (t58':Value) (t59':Int) (t60':Int) (st:SS):Option (Nat×List Value×SS):=
 cond (decide (t60'<t59')) (
 (zam t58' t60' 1).bind fun a=>
 ((st.ld a.1 a.2).bind asS).bind fun b=>
 (addr? r').bind fun c=>
 (st.ldN c.1 c.2 2).bind fun d=>
 (cf 64 [d,.string b] st).bind fun e=>
 ((zar e.1 0).bind (asI .i64)).bind fun f=>
 ((zar e.1 1).bind asB).bind fun g=>
 cond (!g) (
 some (1,[.pointer none,.int .i64 4],e.2)) (
 (zaj s').bind fun h=>
 (addr? h).bind fun i=>
 (zaQ (ptr i.1 (i.2+1)) 5 t60' 1).bind fun j=>
 (e.2.st j.1 j.2 [.int .i64 f]).bind fun k=>
 let l:Int:=IntKind.wrap .i64 (t60'+1)
 lf 17 [r',s',t58',.int .i64 t59',.int .i64 l] k)) (
 some (0,[s'],st))
theorem zgm [Sym] (r':Value) (s':Value) (t58':Value) (t59':Int) (t60':Int) (st:SS) {r:Nat×List Value×SS} (h:zgl cc zaS r' s' t58' t59' t60' st=some r):zaS 17 [r',s',t58',.int .i64 t59',.int .i64 t60'] st=some r:=
 zaw zai zal (key:=17) (I:=zlg) rfl (by kernel_rfl) (by kernel_rfl) rfl rfl (.trans (by kernel_rfl) h)
noncomputable def zho (cf:zak) (lf:zac) (s':Value) (st:SS):Option (Value×SS):=
 let a:SS:=(st.ro st.next).new (.cells [.int .i64 0,.int .i64 0,.int .i64 0,.int .i64 0,.int .i64 0,.int .i64 0,.int .i64 0,.int .i64 0,.int .i64 0,.int .i64 0,.int .i64 0,.int .i64 0] 0)
 (zaj s').bind fun b=>
 (addr? b).bind fun c=>
 (a.ld c.1 c.2).bind fun d=>
 (zaj s').bind fun e=>
 (addr? e).bind fun f=>
 ((a.ld f.1 (f.2+6)).bind (asI .i64)).bind fun g=>
 (zam d g 12).bind fun h=>
 (a.ldN h.1 h.2 12).bind fun i=>
 (a.stV ((st.ro st.next).next) 0 12 i).bind fun j=>
 (j.rdN ((st.ro st.next).next) 0 12).bind fun k=>
 cond (flat3 k) (some (k,st.adv j.next)) none
noncomputable abbrev znC:zac:=lS Tryz.prog Lk0 Tryz.f60 zaz
theorem znD:Lk0.func 60=some (60,Tryz.f60):=by kernel_rfl
theorem zis [Sym] (s':Value) (st:SS) {r:Value×SS} (h:zho cc znC s' st=some r):cc 60 [s'] st=some r:=
 zaf (li:=zaz) zai zal znD rfl (fun _=>rfl) (.trans (by kernel_rfl) h)
noncomputable def zjo (cf:zak) (lf:zac) (s':Value) (st:SS):Option (Value×SS):=
 (zaj s').bind fun a=>
 (addr? a).bind fun b=>
 (((st.ro st.next).ld b.1 (b.2+6)).bind (asI .i64)).bind fun c=>
 some (.int .i64 c,st.adv (st.ro st.next).next)
noncomputable abbrev zpe:zac:=lS Tryz.prog Lk0 Tryz.f38 zaz
theorem zpf:Lk0.func 38=some (38,Tryz.f38):=by kernel_rfl
theorem zjZ [Sym] (s':Value) (st:SS) {r:Value×SS} (h:zjo cc zpe s' st=some r):cc 38 [s'] st=some r:=
 zaf (li:=zaz) zai zal zpf rfl (fun _=>rfl) (.trans (by kernel_rfl) h)
noncomputable def zgX (cf:zak) (lf:zac) (s':Value) (st:SS):Option (Value×SS):=
 (zaj s').bind fun a=>
 (addr? a).bind fun b=>
 ((st.ro st.next).ld b.1 (b.2+7)).bind fun c=>
 ((lenV c).bind (asI .i64)).bind fun d=>
 some (.int .i64 d,st.adv (st.ro st.next).next)
noncomputable abbrev zmD:zac:=lS Tryz.prog Lk0 Tryz.f40 zaz
theorem zmE:Lk0.func 40=some (40,Tryz.f40):=by kernel_rfl
theorem zhw [Sym] (s':Value) (st:SS) {r:Value×SS} (h:zgX cc zmD s' st=some r):cc 40 [s'] st=some r:=
 zaf (li:=zaz) zai zal zmE rfl (fun _=>rfl) (.trans (by kernel_rfl) h)
noncomputable def zg8 (cf:zak) (lf:zac) (s':Value) (entry':Int) (st:SS):Option (Value×SS):=
 cond (decide (0≤entry')) (
 cond (decide (entry'<5)) (
 (zaj s').bind fun a=>
 (addr? a).bind fun b=>
 (zaQ (ptr b.1 (b.2+1)) 5 entry' 1).bind fun c=>
 ((st.ld c.1 c.2).bind (asI .i64)).bind fun d=>
 (zaj s').bind fun e=>
 (addr? e).bind fun f=>
 (st.st f.1 (f.2+6) [.int .i64 d]).bind fun g=>
 (zaj s').bind fun h=>
 (addr? h).bind fun i=>
 (g.st i.1 (i.2+7) [.slice none 0 0]).bind fun j=>
 some (.tuple #[],j)) (
 some (.tuple #[],st))) (
 some (.tuple #[],st))
noncomputable abbrev zpg:zac:=lS Tryz.prog Lk0 Tryz.f41 zaz
theorem zph:Lk0.func 41=some (41,Tryz.f41):=by kernel_rfl
theorem zj0 [Sym] (s':Value) (entry':Int) (st:SS) {r:Value×SS} (h:zg8 cc zpg s' entry' st=some r):cc 41 [s',.int .i64 entry'] st=some r:=
 zaf (li:=zaz) zai zal zph rfl (fun _=>rfl) (.trans (by kernel_rfl) h)
noncomputable def zhp (cf:zak) (lf:zac) (s':Value) (st:SS):Option (Value×SS):=
 (zaj s').bind fun a=>
 (addr? a).bind fun b=>
 (st.ld b.1 (b.2+7)).bind fun c=>
 (zaj s').bind fun d=>
 (addr? d).bind fun e=>
 ((st.ld e.1 (e.2+6)).bind (asI .i64)).bind fun f=>
 let g:Int:=IntKind.wrap .i64 (f+1)
 let h:SS:=st.new (.cells ([.int .i64 g]) 1)
 (h.app 1 8 c (.slice (some ⟨st.next,0,none⟩) 1 1)).bind fun i=>
 (zaj s').bind fun j=>
 (addr? j).bind fun k=>
 (i.2.stV k.1 (k.2+7) 1 i.1).bind fun l=>
 (zaj s').bind fun m=>
 (addr? m).bind fun n=>
 (l.ld n.1 (n.2+7)).bind fun o=>
 ((lenV o).bind (asI .i64)).bind fun p=>
 cond (decide (8<p)) (
 (zaj s').bind fun q=>
 (addr? q).bind fun r=>
 (l.ld r.1 (r.2+7)).bind fun s=>
 (sliceLen s).bind fun t=>
 (l.resl s 1 1 t).bind fun u=>
 (zaj s').bind fun v=>
 (addr? v).bind fun w=>
 (l.stV w.1 (w.2+7) 1 u).bind fun x=>
 some (.tuple #[],x)) (
 some (.tuple #[],l))
noncomputable abbrev znE:zac:=lS Tryz.prog Lk0 Tryz.f65 zaz
theorem znF:Lk0.func 65=some (65,Tryz.f65):=by kernel_rfl
theorem zit [Sym] (s':Value) (st:SS) {r:Value×SS} (h:zhp cc znE s' st=some r):cc 65 [s'] st=some r:=
 zaf (li:=zaz) zai zal znF rfl (fun _=>rfl) (.trans (by kernel_rfl) h)
noncomputable def zhq (cf:zak) (lf:zac) (s':Value) (st:SS):Option (Value×SS):=
 (zaj s').bind fun a=>
 (addr? a).bind fun b=>
 (st.ld b.1 (b.2+7)).bind fun c=>
 ((lenV c).bind (asI .i64)).bind fun d=>
 cond (decide (d=0)) (
 (zaj s').bind fun e=>
 (addr? e).bind fun f=>
 (zaQ (ptr f.1 (f.2+1)) 5 0 1).bind fun g=>
 ((st.ld g.1 g.2).bind (asI .i64)).bind fun h=>
 some (.int .i64 h,st)) (
 (zaj s').bind fun i=>
 (addr? i).bind fun j=>
 (st.ld j.1 (j.2+7)).bind fun k=>
 let l:Int:=IntKind.wrap .i64 (d-1)
 (zam k l 1).bind fun m=>
 ((st.ld m.1 m.2).bind (asI .i64)).bind fun n=>
 (zaj s').bind fun o=>
 (addr? o).bind fun p=>
 (st.ld p.1 (p.2+7)).bind fun q=>
 let r:Int:=IntKind.wrap .i64 (d-1)
 (st.resl q 1 0 r).bind fun s=>
 (zaj s').bind fun t=>
 (addr? t).bind fun u=>
 (st.stV u.1 (u.2+7) 1 s).bind fun v=>
 some (.int .i64 n,v))
noncomputable abbrev znG:zac:=lS Tryz.prog Lk0 Tryz.f66 zaz
theorem znH:Lk0.func 66=some (66,Tryz.f66):=by kernel_rfl
theorem ziu [Sym] (s':Value) (st:SS) {r:Value×SS} (h:zhq cc znG s' st=some r):cc 66 [s'] st=some r:=
 zaf (li:=zaz) zai zal znH rfl (fun _=>rfl) (.trans (by kernel_rfl) h)
noncomputable def zbn (cf:zak) (lf:zac) (s':Value) (c':Value) (st:SS):Option (Value×SS):=
 let a:SS:=st.new (.cells (c':Value).cells.toList 0)
 (cf 60 [s'] a).bind fun b=>
 let c:SS:=b.2.new (.cells [.int .i64 0,.int .i64 0,.int .i64 0,.int .i64 0,.int .i64 0,.int .i64 0,.int .i64 0,.int .i64 0,.int .i64 0,.int .i64 0,.int .i64 0,.int .i64 0] 0)
 (c.stV b.2.next 0 12 b.1).bind fun d=>
 ((d.ld b.2.next 8).bind (asI .i64)).bind fun e=>
 cond (decide (e=0)) (
 (zaj s').bind fun f=>
 (addr? f).bind fun g=>
 ((d.ld g.1 (g.2+6)).bind (asI .i64)).bind fun h=>
 let i:Int:=IntKind.wrap .i64 (h+1)
 (zaj s').bind fun j=>
 (addr? j).bind fun k=>
 (d.st k.1 (k.2+6) [.int .i64 i]).bind fun l=>
 some (.bool false,l)) (
 cond (decide (e=1)) (
 ((d.ld b.2.next 10).bind (asI .i64)).bind fun m=>
 (zaj s').bind fun n=>
 (addr? n).bind fun o=>
 (d.st o.1 (o.2+6) [.int .i64 m]).bind fun p=>
 some (.bool false,p)) (
 cond (decide (e=2)) (
 (zaj s').bind fun q=>
 (addr? q).bind fun r=>
 ((d.ld r.1 (r.2+6)).bind (asI .i64)).bind fun s=>
 let t:Int:=IntKind.wrap .i64 (s+1)
 (zaj s').bind fun u=>
 (addr? u).bind fun v=>
 (d.st v.1 (v.2+6) [.int .i64 t]).bind fun w=>
 ((w.ld st.next 0).bind asB).bind fun x=>
 cond x (
 ((w.ld b.2.next 10).bind (asI .i64)).bind fun y=>
 (zaj s').bind fun z=>
 (addr? z).bind fun A=>
 (w.st A.1 (A.2+6) [.int .i64 y]).bind fun B=>
 some (.bool false,B)) (
 some (.bool false,w))) (
 cond (decide (e=3)) (
 (cf 65 [s'] d).bind fun C=>
 ((C.2.ld b.2.next 10).bind (asI .i64)).bind fun D=>
 (zaj s').bind fun E=>
 (addr? E).bind fun F=>
 (C.2.st F.1 (F.2+6) [.int .i64 D]).bind fun G=>
 some (.bool false,G)) (
 cond (decide (e=4)) (
 (cf 66 [s'] d).bind fun H=>
 ((some H.1).bind (asI .i64)).bind fun I=>
 (zaj s').bind fun J=>
 (addr? J).bind fun K=>
 (H.2.st K.1 (K.2+6) [.int .i64 I]).bind fun L=>
 some (.bool false,L)) (
 cond (decide (e=5)) (
 ((d.ld b.2.next 10).bind (asI .i64)).bind fun M=>
 ((d.ld st.next 1).bind (asI .i64)).bind fun N=>
 let O:Int:=zgM .i64 N 63
 let P:Int:=IntKind.wrap .i64 (M+O)
 (zaj s').bind fun Q=>
 (addr? Q).bind fun R=>
 (d.st R.1 (R.2+6) [.int .i64 P]).bind fun S=>
 ((S.ld st.next 2).bind (asI .i64)).bind fun T=>
 cond (decide (T=1)) (
 ((S.ld st.next 2).bind (asI .i64)).bind fun U=>
 (zaj s').bind fun V=>
 (addr? V).bind fun W=>
 (zaQ (ptr W.1 (W.2+1)) 5 U 1).bind fun X=>
 ((S.ld X.1 X.2).bind (asI .i64)).bind fun Y=>
 (zaj s').bind fun Z=>
 (addr? Z).bind fun aA=>
 (S.st aA.1 (aA.2+6) [.int .i64 Y]).bind fun aB=>
 some (.bool false,aB)) (
 ((S.ld st.next 2).bind (asI .i64)).bind fun aC=>
 cond (decide (aC=2)) (
 ((S.ld st.next 2).bind (asI .i64)).bind fun aD=>
 (zaj s').bind fun aE=>
 (addr? aE).bind fun aF=>
 (zaQ (ptr aF.1 (aF.2+1)) 5 aD 1).bind fun aG=>
 ((S.ld aG.1 aG.2).bind (asI .i64)).bind fun aH=>
 (zaj s').bind fun aI=>
 (addr? aI).bind fun aJ=>
 (S.st aJ.1 (aJ.2+6) [.int .i64 aH]).bind fun aK=>
 some (.bool false,aK)) (
 some (.bool false,S)))) (
 cond (decide (e=6)) (
 ((d.ld b.2.next 10).bind (asI .i64)).bind fun aL=>
 ((d.ld st.next 1).bind (asI .i64)).bind fun aM=>
 let aN:Int:=zgM .i64 aM 15
 let aO:Int:=IntKind.wrap .i64 (aL+aN)
 (zaj s').bind fun aP=>
 (addr? aP).bind fun aQ=>
 (d.st aQ.1 (aQ.2+6) [.int .i64 aO]).bind fun aR=>
 some (.bool false,aR)) (
 (cf 41 [s',.int .i64 0] d).bind fun aS=>
 some (.bool true,aS.2))))))))
noncomputable abbrev znI:zac:=lS Tryz.prog Lk0 Tryz.f39 zaz
theorem znJ:Lk0.func 39=some (39,Tryz.f39):=by kernel_rfl
theorem zba [Sym] (s':Value) (c':Value) (st:SS) {r:Value×SS} (h:zbn cc znI s' c' st=some r):cc 39 [s',c'] st=some r:=
 zaf (li:=zaz) zai zal znJ rfl (fun _=>rfl) (.trans (by kernel_rfl) h)
def zft:LoopI:=⟨[(1,.any),(4,.any),(11,.str),(12,.int .i64),(59,.any),(60,.int .i64),(61,.int .i64),(66,.any),(67,.int .i64),(68,.int .i64)],[(.exit 6,[(1,.any),(4,.any),(12,.int .i64),(59,.any),(60,.int .i64),(61,.int .i64)])]⟩
def zfu:LoopI:=⟨[(1,.any),(4,.any),(59,.any),(60,.int .i64),(61,.int .i64)],[(.exit 4,[(4,.any)]),(.ret,[(2,.any),(3,.bool)])]⟩
def zf1:LoopI:=⟨[(1,.any),(4,.any),(7,.any),(21,.any),(22,.int .i64),(23,.int .i64),(32,.any),(33,.int .i64),(34,.int .i64)],[(.exit 2,[(1,.any),(4,.any),(7,.any),(21,.any),(22,.int .i64),(23,.int .i64)]),(.ret,[(2,.any),(3,.bool)])]⟩
def zf2:LoopI:=⟨[(1,.any),(4,.any),(21,.any),(22,.int .i64),(23,.int .i64)],[(.exit 0,[(1,.any),(4,.any)]),(.ret,[(2,.any),(3,.bool)])]⟩
def zgn (n:Nat):Option LoopI:=cond (Nat.beq n 5) (some zf2) (cond (Nat.beq n 9) (some zf1) (cond (Nat.beq n 17) (some zfu) (cond (Nat.beq n 21) (some zft) (none))))
noncomputable def zcU (cf:zak) (lf:zac) (r':Value) (st:SS):Option (Value×SS):=
 let a:SS:=st.new (.cells (r':Value).cells.toList 0)
 (a.ldN st.next 0 2).bind fun b=>
 (cf 31 [b] a).bind fun c=>
 ((some c.1).bind asB).bind fun d=>
 cond (!d) (
 some (.tuple #[.pointer none,.bool false],c.2)) (
 let e:SS:=c.2.new (.cells [.slice none 0 0,.slice none 0 0,.int .i64 0,.slice none 0 0] 0)
 (e.ld st.next 0).bind fun f=>
 ((lenV f).bind (asI .i64)).bind fun g=>
 (lf 5 [ptr st.next 0,ptr c.2.next 0,f,.int .i64 g,.int .i64 0] e).bind fun h=>
 cond (Nat.beq h.1 0) (
 (h.2.1[0]?).bind fun i=>
 (h.2.1[1]?).bind fun j=>
 (cf 32 [] h.2.2).bind fun k=>
 ((lenV k.1).bind (asI .i64)).bind fun l=>
 (lf 17 [i,j,k.1,.int .i64 l,.int .i64 0] k.2).bind fun m=>
 cond (Nat.beq m.1 0) (
 (m.2.1[0]?).bind fun n=>
 (zaj n).bind fun o=>
 (addr? o).bind fun p=>
 (m.2.2.ld p.1 (p.2+1)).bind fun q=>
 (zam q 0 1).bind fun r=>
 ((m.2.2.ld r.1 r.2).bind (asI .i64)).bind fun s=>
 (zaj n).bind fun t=>
 (addr? t).bind fun u=>
 (m.2.2.st u.1 (u.2+2) [.int .i64 s]).bind fun v=>
 some (.tuple #[n,.bool true],v)) (
 (m.2.1[0]?).bind fun w=>
 ((m.2.1[1]?).bind asB).bind fun x=>
 some (.tuple #[w,.bool x],m.2.2))) (
 (h.2.1[0]?).bind fun y=>
 ((h.2.1[1]?).bind asB).bind fun z=>
 some (.tuple #[y,.bool z],h.2.2)))
noncomputable abbrev zas:zac:=lS Tryz.prog Lk0 Tryz.f57 zgn
theorem zkW:Lk0.func 57=some (57,Tryz.f57):=by kernel_rfl
theorem zc0 [Sym] (r':Value) (st:SS) {r:Value×SS} (h:zcU cc zas r' st=some r):cc 57 [r'] st=some r:=
 zaf (li:=zgn) zai zal zkW rfl (fun _=>rfl) (.trans (by kernel_rfl) h)
noncomputable def zc1 (cf:zak) (lf:zac) (r':Value) (s':Value) (t21':Value) (t22':Int) (t23':Int) (st:SS):Option (Nat×List Value×SS):=
 cond (decide (t23'<t22')) (
 (zam t21' t23' 1).bind fun a=>
 ((st.ld a.1 a.2).bind (asI .u64)).bind fun b=>
 (cf 34 [.int .u64 b] st).bind fun c=>
 let d:SS:=c.2.new (.cells [.int .i64 0,.int .i64 0,.int .i64 0,.int .i64 0,.int .i64 0,.int .i64 0,.int .i64 0,.int .i64 0,.int .i64 0,.int .i64 0,.int .i64 0,.int .i64 0] 0)
 (d.stV c.2.next 0 12 c.1).bind fun e=>
 (e.ldN c.2.next 0 12).bind fun f=>
 (cf 21 [f,.int .i64 t23'] e).bind fun g=>
 ((lenV g.1).bind (asI .i64)).bind fun h=>
 (lf 9 [r',s',ptr c.2.next 0,t21',.int .i64 t22',.int .i64 t23',g.1,.int .i64 h,.int .i64 0] g.2).bind fun i=>
 cond (Nat.beq i.1 0) (
 (i.2.1[0]?).bind fun j=>
 (i.2.1[1]?).bind fun k=>
 (i.2.1[2]?).bind fun l=>
 (i.2.1[3]?).bind fun m=>
 ((i.2.1[4]?).bind (asI .i64)).bind fun n=>
 ((i.2.1[5]?).bind (asI .i64)).bind fun o=>
 (zaj k).bind fun p=>
 (addr? p).bind fun q=>
 (i.2.2.ld q.1 q.2).bind fun r=>
 (addr? l).bind fun s=>
 (i.2.2.ldN s.1 s.2 12).bind fun t=>
 (za0 t 12).bind fun u=>
 let v:SS:=i.2.2.new (.cells (u++([])) 12)
 (v.app 12 96 r (.slice (some ⟨i.2.2.next,0,none⟩) 1 1)).bind fun w=>
 (zaj k).bind fun x=>
 (addr? x).bind fun y=>
 (w.2.stV y.1 y.2 1 w.1).bind fun z=>
 let A:Int:=IntKind.wrap .i64 (o+1)
 lf 5 [j,k,m,.int .i64 n,.int .i64 A] z) (
 (i.2.1[0]?).bind fun B=>
 ((i.2.1[1]?).bind asB).bind fun C=>
 some (1,[B,.bool C],i.2.2))) (
 some (0,[r',s'],st))
theorem zdn [Sym] (r':Value) (s':Value) (t21':Value) (t22':Int) (t23':Int) (st:SS) {r:Nat×List Value×SS} (h:zc1 cc zas r' s' t21' t22' t23' st=some r):zas 5 [r',s',t21',.int .i64 t22',.int .i64 t23'] st=some r:=
 zaw zai zal (key:=5) (I:=zf2) rfl (by kernel_rfl) (by kernel_rfl) rfl rfl (.trans (by kernel_rfl) h)
noncomputable def zc2 (cf:zak) (lf:zac) (r':Value) (s':Value) (w':Value) (t21':Value) (t22':Int) (t23':Int) (t32':Value) (t33':Int) (t34':Int) (st:SS):Option (Nat×List Value×SS):=
 cond (decide (t34'<t33')) (
 (zam t32' t34' 2).bind fun a=>
 (st.ldN a.1 a.2 2).bind fun b=>
 let c:SS:=st.new (.cells [.int .i64 0,.int .i64 0] 0)
 (c.stV st.next 0 2 b).bind fun d=>
 (zaQ (ptr st.next 0) 2 0 1).bind fun e=>
 ((d.ld e.1 e.2).bind (asI .i64)).bind fun f=>
 (zaQ (ptr st.next 0) 2 1 1).bind fun g=>
 ((d.ld g.1 g.2).bind (asI .i64)).bind fun h=>
 let i:Int:=IntKind.wrap .i64 (f+h)
 (addr? r').bind fun j=>
 (d.ld j.1 j.2).bind fun k=>
 ((lenV k).bind (asI .i64)).bind fun l=>
 cond (decide (l<i)) (
 some (1,[.pointer none,.bool false],d)) (
 let m:Int:=IntKind.wrap .i64 (t34'+1)
 lf 9 [r',s',w',t21',.int .i64 t22',.int .i64 t23',t32',.int .i64 t33',.int .i64 m] d)) (
 some (0,[r',s',w',t21',.int .i64 t22',.int .i64 t23'],st))
theorem zdo [Sym] (r':Value) (s':Value) (w':Value) (t21':Value) (t22':Int) (t23':Int) (t32':Value) (t33':Int) (t34':Int) (st:SS) {r:Nat×List Value×SS} (h:zc2 cc zas r' s' w' t21' t22' t23' t32' t33' t34' st=some r):zas 9 [r',s',w',t21',.int .i64 t22',.int .i64 t23',t32',.int .i64 t33',.int .i64 t34'] st=some r:=
 zaw zai zal (key:=9) (I:=zf1) rfl (by kernel_rfl) (by kernel_rfl) rfl rfl (.trans (by kernel_rfl) h)
noncomputable def zcH (cf:zak) (lf:zac) (r':Value) (s':Value) (t59':Value) (t60':Int) (t61':Int) (st:SS):Option (Nat×List Value×SS):=
 cond (decide (t61'<t60')) (
 (zam t59' t61' 1).bind fun a=>
 ((st.ld a.1 a.2).bind asS).bind fun b=>
 (addr? r').bind fun c=>
 (st.ld c.1 (c.2+1)).bind fun d=>
 ((lenV d).bind (asI .i64)).bind fun e=>
 (lf 21 [r',s',.string b,.int .i64 (-1),t59',.int .i64 t60',.int .i64 t61',d,.int .i64 e,.int .i64 0] st).bind fun f=>
 (f.2.1[0]?).bind fun g=>
 (f.2.1[1]?).bind fun h=>
 ((f.2.1[2]?).bind (asI .i64)).bind fun i=>
 (f.2.1[3]?).bind fun j=>
 ((f.2.1[4]?).bind (asI .i64)).bind fun k=>
 ((f.2.1[5]?).bind (asI .i64)).bind fun l=>
 cond (decide (i<0)) (
 some (1,[.pointer none,.bool false],f.2.2)) (
 (zaj h).bind fun m=>
 (addr? m).bind fun n=>
 (f.2.2.ld n.1 (n.2+1)).bind fun o=>
 let p:SS:=f.2.2.new (.cells ([.int .i64 i]) 1)
 (p.app 1 8 o (.slice (some ⟨f.2.2.next,0,none⟩) 1 1)).bind fun q=>
 (zaj h).bind fun r=>
 (addr? r).bind fun s=>
 (q.2.stV s.1 (s.2+1) 1 q.1).bind fun t=>
 let u:Int:=IntKind.wrap .i64 (l+1)
 lf 17 [g,h,j,.int .i64 k,.int .i64 u] t)) (
 some (0,[s'],st))
theorem zc9 [Sym] (r':Value) (s':Value) (t59':Value) (t60':Int) (t61':Int) (st:SS) {r:Nat×List Value×SS} (h:zcH cc zas r' s' t59' t60' t61' st=some r):zas 17 [r',s',t59',.int .i64 t60',.int .i64 t61'] st=some r:=
 zaw zai zal (key:=17) (I:=zfu) rfl (by kernel_rfl) (by kernel_rfl) rfl rfl (.trans (by kernel_rfl) h)
noncomputable def zcI (cf:zak) (lf:zac) (r':Value) (s':Value) (n':ByteArray) (at0':Int) (t59':Value) (t60':Int) (t61':Int) (t66':Value) (t67':Int) (t68':Int) (st:SS):Option (Nat×List Value×SS):=
 cond (decide (t68'<t67')) (
 (zam t66' t68' 2).bind fun a=>
 (st.ldN a.1 a.2 2).bind fun b=>
 let c:SS:=st.new (.cells [.string ⟨#[]⟩,.int .i64 0] 0)
 (c.stV st.next 0 2 b).bind fun d=>
 ((d.ld st.next 0).bind asS).bind fun e=>
 cond (eqT e n') (
 ((d.ld st.next 1).bind (asI .i64)).bind fun f=>
 let g:Int:=IntKind.wrap .i64 (t68'+1)
 lf 21 [r',s',.string n',.int .i64 f,t59',.int .i64 t60',.int .i64 t61',t66',.int .i64 t67',.int .i64 g] d) (
 let h:Int:=IntKind.wrap .i64 (t68'+1)
 lf 21 [r',s',.string n',.int .i64 at0',t59',.int .i64 t60',.int .i64 t61',t66',.int .i64 t67',.int .i64 h] d)) (
 some (0,[r',s',.int .i64 at0',t59',.int .i64 t60',.int .i64 t61'],st))
theorem zda [Sym] (r':Value) (s':Value) (n':ByteArray) (at0':Int) (t59':Value) (t60':Int) (t61':Int) (t66':Value) (t67':Int) (t68':Int) (st:SS) {r:Nat×List Value×SS} (h:zcI cc zas r' s' n' at0' t59' t60' t61' t66' t67' t68' st=some r):zas 21 [r',s',.string n',.int .i64 at0',t59',.int .i64 t60',.int .i64 t61',t66',.int .i64 t67',.int .i64 t68'] st=some r:=
 zaw zai zal (key:=21) (I:=zft) rfl (by kernel_rfl) (by kernel_rfl) rfl rfl (.trans (by kernel_rfl) h)
noncomputable def zc3 (cf:zak) (lf:zac) (s':Value) (n':Int) (st:SS):Option (Value×SS):=
 cond (decide (0≤n')) (
 cond (decide (n'≤4)) (
 (zaj s').bind fun a=>
 (addr? a).bind fun b=>
 (st.ld b.1 (b.2+1)).bind fun c=>
 (zam c n' 1).bind fun d=>
 ((st.ld d.1 d.2).bind (asI .i64)).bind fun e=>
 (zaj s').bind fun f=>
 (addr? f).bind fun g=>
 (st.st g.1 (g.2+2) [.int .i64 e]).bind fun h=>
 (zaj s').bind fun i=>
 (addr? i).bind fun j=>
 (h.st j.1 (j.2+3) [.slice none 0 0]).bind fun k=>
 some (.tuple #[],k)) (
 some (.tuple #[],st))) (
 some (.tuple #[],st))
noncomputable abbrev ziP:zac:=lS Tryz.prog Lk0 Tryz.f58 zaz
theorem ziQ:Lk0.func 58=some (58,Tryz.f58):=by kernel_rfl
theorem zfd [Sym] (s':Value) (n':Int) (st:SS) {r:Value×SS} (h:zc3 cc ziP s' n' st=some r):cc 58 [s',.int .i64 n'] st=some r:=
 zaf (li:=zaz) zai zal ziQ rfl (fun _=>rfl) (.trans (by kernel_rfl) h)
noncomputable def zaE (cf:zak) (lf:zac) (s':Value) (is':Bool) (table':Int) (operand':Int) (st:SS):Option (Value×SS):=
 (zaj s').bind fun a=>
 (addr? a).bind fun b=>
 (st.ld b.1 b.2).bind fun c=>
 (zaj s').bind fun d=>
 (addr? d).bind fun e=>
 ((st.ld e.1 (e.2+2)).bind (asI .i64)).bind fun f=>
 (zam c f 12).bind fun g=>
 (st.ldN g.1 g.2 12).bind fun h=>
 let i:SS:=st.new (.cells [.int .i64 0,.int .i64 0,.int .i64 0,.int .i64 0,.int .i64 0,.int .i64 0,.int .i64 0,.int .i64 0,.int .i64 0,.int .i64 0,.int .i64 0,.int .i64 0] 0)
 (i.stV st.next 0 12 h).bind fun j=>
 (zaj s').bind fun k=>
 (addr? k).bind fun l=>
 ((j.ld l.1 (l.2+2)).bind (asI .i64)).bind fun m=>
 let n:Int:=IntKind.wrap .i64 (m+1)
 ((j.ld st.next 8).bind (asI .i64)).bind fun o=>
 cond (decide (o=1)) (
 ((j.ld st.next 10).bind (asI .i64)).bind fun p=>
 (zaj s').bind fun q=>
 (addr? q).bind fun r=>
 (j.st r.1 (r.2+2) [.int .i64 p]).bind fun s=>
 some (.bool false,s)) (
 cond (decide (o=2)) (
 cond is' (
 ((j.ld st.next 10).bind (asI .i64)).bind fun t=>
 (zaj s').bind fun u=>
 (addr? u).bind fun v=>
 (j.st v.1 (v.2+2) [.int .i64 t]).bind fun w=>
 some (.bool false,w)) (
 (zaj s').bind fun x=>
 (addr? x).bind fun y=>
 (j.st y.1 (y.2+2) [.int .i64 n]).bind fun z=>
 some (.bool false,z))) (
 cond (decide (o=3)) (
 let A:SS:=j.new (.cells ([]) 1)
 (zaj s').bind fun B=>
 (addr? B).bind fun C=>
 (A.ld C.1 (C.2+3)).bind fun D=>
 (A.app 1 8 (.slice (some ⟨j.next,0,none⟩) 0 0) D).bind fun E=>
 let F:SS:=E.2.new (.cells ([.int .i64 n]) 1)
 (F.app 1 8 E.1 (.slice (some ⟨E.2.next,0,none⟩) 1 1)).bind fun G=>
 (zaj s').bind fun H=>
 (addr? H).bind fun I=>
 (G.2.stV I.1 (I.2+3) 1 G.1).bind fun J=>
 (zaj s').bind fun K=>
 (addr? K).bind fun L=>
 (J.ld L.1 (L.2+3)).bind fun M=>
 ((lenV M).bind (asI .i64)).bind fun N=>
 cond (decide (N=9)) (
 (zaj s').bind fun O=>
 (addr? O).bind fun P=>
 (J.ld P.1 (P.2+3)).bind fun Q=>
 (sliceLen Q).bind fun R=>
 (J.resl Q 1 1 R).bind fun S=>
 (zaj s').bind fun T=>
 (addr? T).bind fun U=>
 (J.stV U.1 (U.2+3) 1 S).bind fun V=>
 ((V.ld st.next 10).bind (asI .i64)).bind fun W=>
 (zaj s').bind fun X=>
 (addr? X).bind fun Y=>
 (V.st Y.1 (Y.2+2) [.int .i64 W]).bind fun Z=>
 some (.bool false,Z)) (
 ((J.ld st.next 10).bind (asI .i64)).bind fun aA=>
 (zaj s').bind fun aB=>
 (addr? aB).bind fun aC=>
 (J.st aC.1 (aC.2+2) [.int .i64 aA]).bind fun aD=>
 some (.bool false,aD))) (
 cond (decide (o=4)) (
 (zaj s').bind fun aE=>
 (addr? aE).bind fun aF=>
 (j.ld aF.1 (aF.2+1)).bind fun aG=>
 (zam aG 0 1).bind fun aH=>
 ((j.ld aH.1 aH.2).bind (asI .i64)).bind fun aI=>
 (zaj s').bind fun aJ=>
 (addr? aJ).bind fun aK=>
 (j.ld aK.1 (aK.2+3)).bind fun aL=>
 ((lenV aL).bind (asI .i64)).bind fun aM=>
 cond (decide (0<aM)) (
 (zaj s').bind fun aN=>
 (addr? aN).bind fun aO=>
 (j.ld aO.1 (aO.2+3)).bind fun aP=>
 let aQ:Int:=IntKind.wrap .i64 (aM-1)
 (zam aP aQ 1).bind fun aR=>
 ((j.ld aR.1 aR.2).bind (asI .i64)).bind fun aS=>
 let aT:SS:=j.new (.cells ([]) 1)
 (zaj s').bind fun aU=>
 (addr? aU).bind fun aV=>
 (aT.ld aV.1 (aV.2+3)).bind fun aW=>
 let aX:Int:=IntKind.wrap .i64 (aM-1)
 (aT.resl aW 1 0 aX).bind fun aY=>
 (aT.app 1 8 (.slice (some ⟨j.next,0,none⟩) 0 0) aY).bind fun aZ=>
 (zaj s').bind fun bA=>
 (addr? bA).bind fun bB=>
 (aZ.2.stV bB.1 (bB.2+3) 1 aZ.1).bind fun bC=>
 (zaj s').bind fun bD=>
 (addr? bD).bind fun bE=>
 (bC.st bE.1 (bE.2+2) [.int .i64 aS]).bind fun bF=>
 some (.bool false,bF)) (
 (zaj s').bind fun bG=>
 (addr? bG).bind fun bH=>
 (j.st bH.1 (bH.2+2) [.int .i64 aI]).bind fun bI=>
 some (.bool false,bI))) (
 cond (decide (o=5)) (
 ((j.ld st.next 10).bind (asI .i64)).bind fun bJ=>
 let bK:Int:=IntKind.wrap .u64 table'
 let bL:Int:=Int.tmod bK 64
 let bM:Int:=IntKind.wrap .i64 bL
 let bN:Int:=IntKind.wrap .i64 (bJ+bM)
 cond (decide (operand'=1)) (
 (zaj s').bind fun bO=>
 (addr? bO).bind fun bP=>
 (j.ld bP.1 (bP.2+1)).bind fun bQ=>
 (zam bQ operand' 1).bind fun bR=>
 ((j.ld bR.1 bR.2).bind (asI .i64)).bind fun bS=>
 (zaj s').bind fun bT=>
 (addr? bT).bind fun bU=>
 (j.st bU.1 (bU.2+2) [.int .i64 bS]).bind fun bV=>
 some (.bool false,bV)) (
 cond (decide (operand'=2)) (
 (zaj s').bind fun bW=>
 (addr? bW).bind fun bX=>
 (j.ld bX.1 (bX.2+1)).bind fun bY=>
 (zam bY operand' 1).bind fun bZ=>
 ((j.ld bZ.1 bZ.2).bind (asI .i64)).bind fun cA=>
 (zaj s').bind fun cB=>
 (addr? cB).bind fun cC=>
 (j.st cC.1 (cC.2+2) [.int .i64 cA]).bind fun cD=>
 some (.bool false,cD)) (
 (zaj s').bind fun cE=>
 (addr? cE).bind fun cF=>
 (j.st cF.1 (cF.2+2) [.int .i64 bN]).bind fun cG=>
 some (.bool false,cG)))) (
 cond (decide (o=6)) (
 ((j.ld st.next 10).bind (asI .i64)).bind fun cH=>
 let cI:Int:=IntKind.wrap .u64 table'
 let cJ:Int:=Int.tmod cI 16
 let cK:Int:=IntKind.wrap .i64 cJ
 let cL:Int:=IntKind.wrap .i64 (cH+cK)
 (zaj s').bind fun cM=>
 (addr? cM).bind fun cN=>
 (j.st cN.1 (cN.2+2) [.int .i64 cL]).bind fun cO=>
 some (.bool false,cO)) (
 cond (decide (o=7)) (
 (cf 58 [s',.int .i64 0] j).bind fun cP=>
 some (.bool true,cP.2)) (
 (zaj s').bind fun cQ=>
 (addr? cQ).bind fun cR=>
 (j.st cR.1 (cR.2+2) [.int .i64 n]).bind fun cS=>
 some (.bool false,cS))))))))
noncomputable abbrev zeD:zac:=lS Tryz.prog Lk0 Tryz.f59 zaz
theorem zhP:Lk0.func 59=some (59,Tryz.f59):=by kernel_rfl
theorem zhQ [Sym] (s':Value) (is':Bool) (table':Int) (operand':Int) (st:SS) {r:Value×SS} (h:zaE cc zeD s' is' table' operand' st=some r):cc 59 [s',.bool is',.int .i64 table',.int .i64 operand'] st=some r:=
 zaf (li:=zaz) zai zal zhP rfl (fun _=>rfl) (.trans (by kernel_rfl) h)
def zfv:LoopI:=⟨[(2,.any),(5,.any),(7,.any),(31,.any),(32,.int .i64),(33,.int .i64)],[(.exit 0,[]),(.ret,[(4,.bool)])]⟩
def zf3 (n:Nat):Option LoopI:=cond (Nat.beq n 8) (some zfv) (none)
noncomputable def zeR (cf:zak) (lf:zac) (r':Value) (steps':Value) (st:SS):Option (Value×SS):=
 let a:SS:=st.new (.cells (r':Value).cells.toList 0)
 (a.ldN st.next 0 2).bind fun b=>
 (cf 37 [b] a).bind fun c=>
 (zar c.1 0).bind fun d=>
 ((zar c.1 1).bind (asI .i64)).bind fun e=>
 (c.2.ldN st.next 0 2).bind fun f=>
 (cf 57 [f] c.2).bind fun g=>
 (zar g.1 0).bind fun h=>
 ((zar g.1 1).bind asB).bind fun i=>
 cond (!i) (
 cond (decide (e=4)) (
 (((zjI d).bind fun r=>some (.bool r)).bind asB).bind fun j=>
 some (.bool j,g.2)) (
 some (.bool false,g.2))) (
 cond (!(decide (e=0))) (
 some (.bool false,g.2)) (
 ((lenV steps').bind (asI .i64)).bind fun k=>
 (lf 8 [ptr st.next 0,d,h,steps',.int .i64 k,.int .i64 0] g.2).bind fun l=>
 cond (Nat.beq l.1 0) (
 some (.bool true,l.2.2)) (
 ((l.2.1[0]?).bind asB).bind fun m=>
 some (.bool m,l.2.2))))
noncomputable abbrev zbo:zac:=lS Tryz.prog Lk0 Tryz.f36 zf3
theorem zj1:Lk0.func 36=some (36,Tryz.f36):=by kernel_rfl
theorem zf4 [Sym] (r':Value) (steps':Value) (st:SS) {r:Value×SS} (h:zeR cc zbo r' steps' st=some r):cc 36 [r',steps'] st=some r:=
 zaf (li:=zf3) zai zal zj1 rfl (fun _=>rfl) (.trans (by kernel_rfl) h)
noncomputable def zcJ (cf:zak) (lf:zac) (r':Value) (s':Value) (m':Value) (t31':Value) (t32':Int) (t33':Int) (st:SS):Option (Nat×List Value×SS):=
 cond (decide (t33'<t32')) (
 (zam t31' t33' 5).bind fun a=>
 (st.ldN a.1 a.2 5).bind fun b=>
 let c:SS:=st.new (.cells [.bool false,.int .i64 0,.bool false,.int .i64 0,.int .i64 0] 0)
 (c.stV st.next 0 5 b).bind fun d=>
 ((d.ld st.next 0).bind asB).bind fun e=>
 cond e (
 ((d.ld st.next 1).bind (asI .i64)).bind fun f=>
 (cf 41 [s',.int .i64 f] d).bind fun g=>
 ((g.2.ld st.next 1).bind (asI .i64)).bind fun h=>
 (cf 58 [m',.int .i64 h] g.2).bind fun i=>
 (cf 38 [s'] (i.2.ro i.2.next)).bind fun j=>
 ((some j.1).bind (asI .i64)).bind fun k=>
 (zaj m').bind fun l=>
 (addr? l).bind fun m=>
 (((j.2.ro i.2.lim).ld m.1 (m.2+2)).bind (asI .i64)).bind fun n=>
 cond (!(decide (k=n))) (
 some (1,[.bool false],(j.2.ro i.2.lim))) (
 (cf 40 [s'] ((j.2.ro i.2.lim).ro (j.2.ro i.2.lim).next)).bind fun o=>
 ((some o.1).bind (asI .i64)).bind fun p=>
 (zaj m').bind fun q=>
 (addr? q).bind fun s=>
 ((o.2.ro (j.2.ro i.2.lim).lim).ld s.1 (s.2+3)).bind fun t=>
 ((lenV t).bind (asI .i64)).bind fun u=>
 cond (!(decide (p=u))) (
 some (1,[.bool false],(o.2.ro (j.2.ro i.2.lim).lim))) (
 (cf 38 [s'] (o.2.ro (j.2.ro i.2.lim).lim)).bind fun v=>
 ((some v.1).bind (asI .i64)).bind fun w=>
 cond (decide (w<0)) (
 some (1,[.bool false],v.2)) (
 (cf 38 [s'] (v.2.ro v.2.next)).bind fun x=>
 ((some x.1).bind (asI .i64)).bind fun y=>
 (addr? r').bind fun z=>
 ((x.2.ro v.2.lim).ld z.1 z.2).bind fun A=>
 ((lenV A).bind (asI .i64)).bind fun B=>
 cond (decide (B≤y)) (
 some (1,[.bool false],(x.2.ro v.2.lim))) (
 (cf 60 [s'] ((x.2.ro v.2.lim).ro (x.2.ro v.2.lim).next)).bind fun C=>
 (zaj m').bind fun D=>
 (addr? D).bind fun E=>
 ((C.2.ro (x.2.ro v.2.lim).lim).ld E.1 E.2).bind fun F=>
 (zaj m').bind fun G=>
 (addr? G).bind fun H=>
 (((C.2.ro (x.2.ro v.2.lim).lim).ld H.1 (H.2+2)).bind (asI .i64)).bind fun I=>
 (zam F I 12).bind fun J=>
 ((C.2.ro (x.2.ro v.2.lim).lim).ldN J.1 J.2 12).bind fun K=>
 (((eqA Tryz.prog Lk0 35 C.1 K).bind fun r=>some (.bool !r)).bind asB).bind fun L=>
 cond L (
 some (1,[.bool false],(C.2.ro (x.2.ro v.2.lim).lim))) (
 let M:Int:=IntKind.wrap .i64 (t33'+1)
 lf 8 [r',s',m',t31',.int .i64 t32',.int .i64 M] (C.2.ro (x.2.ro v.2.lim).lim))))))) (
 ((d.ld st.next 2).bind asB).bind fun N=>
 ((d.ld st.next 3).bind (asI .i64)).bind fun O=>
 ((d.ld st.next 4).bind (asI .i64)).bind fun P=>
 (znl Lk0 d (ptr st.next 0)).bind fun w42=>
 (cf 39 [s',.agg #[.bool N,.int .i64 O,.int .i64 P]] (d.frz w42)).bind fun Q=>
 ((some Q.1).bind asB).bind fun R=>
 (((Q.2.unfrz w42).ld st.next 2).bind asB).bind fun S=>
 (((Q.2.unfrz w42).ld st.next 3).bind (asI .i64)).bind fun T=>
 (((Q.2.unfrz w42).ld st.next 4).bind (asI .i64)).bind fun U=>
 (cf 59 [m',.bool S,.int .i64 T,.int .i64 U] (Q.2.unfrz w42)).bind fun V=>
 ((some V.1).bind asB).bind fun W=>
 cond (!(R==W)) (
 some (1,[.bool false],V.2)) (
 (cf 38 [s'] (V.2.ro V.2.next)).bind fun X=>
 ((some X.1).bind (asI .i64)).bind fun Y=>
 (zaj m').bind fun Z=>
 (addr? Z).bind fun aA=>
 (((X.2.ro V.2.lim).ld aA.1 (aA.2+2)).bind (asI .i64)).bind fun aB=>
 cond (!(decide (Y=aB))) (
 some (1,[.bool false],(X.2.ro V.2.lim))) (
 (cf 40 [s'] ((X.2.ro V.2.lim).ro (X.2.ro V.2.lim).next)).bind fun aC=>
 ((some aC.1).bind (asI .i64)).bind fun aD=>
 (zaj m').bind fun aE=>
 (addr? aE).bind fun aF=>
 ((aC.2.ro (X.2.ro V.2.lim).lim).ld aF.1 (aF.2+3)).bind fun aG=>
 ((lenV aG).bind (asI .i64)).bind fun aH=>
 cond (!(decide (aD=aH))) (
 some (1,[.bool false],(aC.2.ro (X.2.ro V.2.lim).lim))) (
 (cf 38 [s'] (aC.2.ro (X.2.ro V.2.lim).lim)).bind fun aI=>
 ((some aI.1).bind (asI .i64)).bind fun aJ=>
 cond (decide (aJ<0)) (
 some (1,[.bool false],aI.2)) (
 (cf 38 [s'] (aI.2.ro aI.2.next)).bind fun aK=>
 ((some aK.1).bind (asI .i64)).bind fun aL=>
 (addr? r').bind fun aM=>
 ((aK.2.ro aI.2.lim).ld aM.1 aM.2).bind fun aN=>
 ((lenV aN).bind (asI .i64)).bind fun aO=>
 cond (decide (aO≤aL)) (
 some (1,[.bool false],(aK.2.ro aI.2.lim))) (
 (cf 60 [s'] ((aK.2.ro aI.2.lim).ro (aK.2.ro aI.2.lim).next)).bind fun aP=>
 (zaj m').bind fun aQ=>
 (addr? aQ).bind fun aR=>
 ((aP.2.ro (aK.2.ro aI.2.lim).lim).ld aR.1 aR.2).bind fun aS=>
 (zaj m').bind fun aT=>
 (addr? aT).bind fun aU=>
 (((aP.2.ro (aK.2.ro aI.2.lim).lim).ld aU.1 (aU.2+2)).bind (asI .i64)).bind fun aV=>
 (zam aS aV 12).bind fun aW=>
 ((aP.2.ro (aK.2.ro aI.2.lim).lim).ldN aW.1 aW.2 12).bind fun aX=>
 (((eqA Tryz.prog Lk0 35 aP.1 aX).bind fun r=>some (.bool !r)).bind asB).bind fun aY=>
 cond aY (
 some (1,[.bool false],(aP.2.ro (aK.2.ro aI.2.lim).lim))) (
 let aZ:Int:=IntKind.wrap .i64 (t33'+1)
 lf 8 [r',s',m',t31',.int .i64 t32',.int .i64 aZ] (aP.2.ro (aK.2.ro aI.2.lim).lim))))))))) (
 some (0,[],st))
theorem zdb [Sym] (r':Value) (s':Value) (m':Value) (t31':Value) (t32':Int) (t33':Int) (st:SS) {r:Nat×List Value×SS} (h:zcJ cc zbo r' s' m' t31' t32' t33' st=some r):zbo 8 [r',s',m',t31',.int .i64 t32',.int .i64 t33'] st=some r:=
 zaw zai zal (key:=8) (I:=zfv) rfl (by kernel_rfl) (by kernel_rfl) rfl rfl (.trans (by kernel_rfl) h)
def zeg:LoopI:=⟨[(1,.any),(2,.any),(25,.any),(26,.int .i64),(27,.int .i64)],[(.exit 0,[(1,.any),(2,.any)]),(.ret,[(4,.bool)])]⟩
def zeE (n:Nat):Option LoopI:=cond (Nat.beq n 6) (some zeg) (none)
noncomputable def zbh (cf:zak) (lf:zac) (r':Value) (steps':Value) (st:SS):Option (Value×SS):=
 let a:SS:=st.new (.cells (r':Value).cells.toList 0)
 (cf 35 [] a).bind fun b=>
 ((some b.1).bind asB).bind fun c=>
 cond (!c) (
 some (.bool false,b.2)) (
 (b.2.ld st.next 0).bind fun d=>
 ((lenV d).bind (asI .i64)).bind fun e=>
 cond (decide (100<e)) (
 some (.bool true,b.2)) (
 (b.2.ld st.next 1).bind fun f=>
 ((lenV f).bind (asI .i64)).bind fun g=>
 cond (decide (20<g)) (
 some (.bool true,b.2)) (
 ((lenV steps').bind (asI .i64)).bind fun h=>
 cond (decide (200<h)) (
 some (.bool true,b.2)) (
 (b.2.ld st.next 1).bind fun i=>
 ((lenV i).bind (asI .i64)).bind fun j=>
 (lf 6 [steps',ptr st.next 0,i,.int .i64 j,.int .i64 0] b.2).bind fun k=>
 cond (Nat.beq k.1 0) (
 (k.2.1[0]?).bind fun l=>
 (k.2.1[1]?).bind fun m=>
 (addr? m).bind fun n=>
 (k.2.2.ldN n.1 n.2 2).bind fun o=>
 (cf 36 [o,l] k.2.2).bind fun p=>
 ((some p.1).bind asB).bind fun q=>
 some (.bool q,p.2)) (
 ((k.2.1[0]?).bind asB).bind fun r=>
 some (.bool r,k.2.2))))))
noncomputable abbrev zaM:zac:=lS Tryz.prog Lk0 Tryz.f10 zeE
theorem zhR:Lk0.func 10=some (10,Tryz.f10):=by kernel_rfl
theorem zhS [Sym] (r':Value) (steps':Value) (st:SS) {r:Value×SS} (h:zbh cc zaM r' steps' st=some r):cc 10 [r',steps'] st=some r:=
 zaf (li:=zeE) zai zal zhR rfl (fun _=>rfl) (.trans (by kernel_rfl) h)
noncomputable def zb8 (cf:zak) (lf:zac) (steps':Value) (r':Value) (t25':Value) (t26':Int) (t27':Int) (st:SS):Option (Nat×List Value×SS):=
 cond (decide (t27'<t26')) (
 (zam t25' t27' 2).bind fun a=>
 (st.ldN a.1 a.2 2).bind fun b=>
 let c:SS:=st.new (.cells [.string ⟨#[]⟩,.int .i64 0] 0)
 (c.stV st.next 0 2 b).bind fun d=>
 ((d.ld st.next 0).bind asS).bind fun e=>
 cond (decide (100<(e.size:Int))) (
 some (1,[.bool true],d)) (
 let f:Int:=IntKind.wrap .i64 (t27'+1)
 lf 6 [steps',r',t25',.int .i64 t26',.int .i64 f] d)) (
 some (0,[steps',r'],st))
theorem zcq [Sym] (steps':Value) (r':Value) (t25':Value) (t26':Int) (t27':Int) (st:SS) {r:Nat×List Value×SS} (h:zb8 cc zaM steps' r' t25' t26' t27' st=some r):zaM 6 [steps',r',t25',.int .i64 t26',.int .i64 t27'] st=some r:=
 zaw zai zal (key:=6) (I:=zeg) rfl (by kernel_rfl) (by kernel_rfl) rfl rfl (.trans (by kernel_rfl) h)
end Go.Proofs.YtifploedaacedaaGreatDoorE
namespace Go.Proofs.YtifploedaacedaaGreatDoorE
set_option maxRecDepth 20000
open Go Go.E Go.Proofs
def zl7:LoopI:=⟨[(1,.any),(16,.any),(17,.int .i64),(18,.int .i64)],[(.exit 0,[]),(.ret,[(2,.bool)])]⟩
def zm7 (n:Nat):Option LoopI:=cond (Nat.beq n 4) (some zl7) (none)
noncomputable def ziv (cf:zak) (lf:zac) (r':Value) (st:SS):Option (Value×SS):=
 let a:SS:=(st.ro st.next).new (.cells (r':Value).cells.toList 0)
 (a.ld ((st.ro st.next).next) 0).bind fun b=>
 ((lenV b).bind (asI .i64)).bind fun c=>
 cond (decide (2048<c)) (
 some (.bool false,st.adv a.next)) (
 (a.ld ((st.ro st.next).next) 1).bind fun d=>
 ((lenV d).bind (asI .i64)).bind fun e=>
 cond (decide (255<e)) (
 some (.bool false,st.adv a.next)) (
 (a.ld ((st.ro st.next).next) 1).bind fun f=>
 ((lenV f).bind (asI .i64)).bind fun g=>
 (lf 4 [ptr ((st.ro st.next).next) 0,f,.int .i64 g,.int .i64 0] a).bind fun h=>
 cond (Nat.beq h.1 0) (
 some (.bool true,st.adv h.2.2.next)) (
 ((h.2.1[0]?).bind asB).bind fun i=>
 some (.bool i,st.adv h.2.2.next))))
noncomputable abbrev zfw:zac:=lS Tryz.prog Lk0 Tryz.f61 zm7
theorem zrY:Lk0.func 61=some (61,Tryz.f61):=by kernel_rfl
theorem zjq [Sym] (r':Value) (st:SS) {r:Value×SS} (h:ziv cc zfw r' st=some r):cc 61 [r'] st=some r:=
 zaf (li:=zm7) zai zal zrY rfl (fun _=>rfl) (.trans (by kernel_rfl) h)
noncomputable def zdE (cf:zak) (lf:zac) (r':Value) (t16':Value) (t17':Int) (t18':Int) (st:SS):Option (Nat×List Value×SS):=
 cond (decide (t18'<t17')) (
 (zam t16' t18' 2).bind fun a=>
 (st.ldN a.1 a.2 2).bind fun b=>
 let c:SS:=st.new (.cells [.string ⟨#[]⟩,.int .i64 0] 0)
 (c.stV st.next 0 2 b).bind fun d=>
 ((d.ld st.next 0).bind asS).bind fun e=>
 (cf 86 [.string e] d).bind fun f=>
 ((some f.1).bind asB).bind fun g=>
 cond (!g) (
 some (1,[.bool false],f.2)) (
 ((f.2.ld st.next 1).bind (asI .i64)).bind fun h=>
 cond (decide (h<0)) (
 some (1,[.bool false],f.2)) (
 ((f.2.ld st.next 1).bind (asI .i64)).bind fun i=>
 (addr? r').bind fun j=>
 (f.2.ld j.1 j.2).bind fun k=>
 ((lenV k).bind (asI .i64)).bind fun l=>
 cond (decide (l≤i)) (
 some (1,[.bool false],f.2)) (
 (addr? r').bind fun m=>
 (f.2.ld m.1 (m.2+1)).bind fun n=>
 (f.2.resl n 2 0 t18').bind fun o=>
 (cf 87 [o,.func (.func 88) #[] #[ptr st.next 0]] f.2).bind fun p=>
 ((some p.1).bind asB).bind fun q=>
 cond q (
 some (1,[.bool false],p.2)) (
 let r:Int:=IntKind.wrap .i64 (t18'+1)
 lf 4 [r',t16',.int .i64 t17',.int .i64 r] p.2))))) (
 some (0,[],st))
theorem zc8 [Sym] (r':Value) (t16':Value) (t17':Int) (t18':Int) (st:SS) {r:Nat×List Value×SS} (h:zdE cc zfw r' t16' t17' t18' st=some r):zfw 4 [r',t16',.int .i64 t17',.int .i64 t18'] st=some r:=
 zaw zai zal (key:=4) (I:=zl7) rfl (by kernel_rfl) (by kernel_rfl) rfl rfl (.trans (by kernel_rfl) h)
noncomputable def entEq (cf:zak) (lf:zac) (x':Value) (x1':Value) (st:SS):Option (Value×SS):=
 let a:SS:=(st.ro st.next).new (.cells (x':Value).cells.toList 0)
 ((a.ld ((st.ro st.next).next) 0).bind asS).bind fun b=>
 (addr? x1').bind fun c=>
 ((a.ld c.1 c.2).bind asS).bind fun d=>
 some (.bool (eqT b d),st.adv a.next)
noncomputable abbrev zwb:zac:=lS Tryz.prog Lk0 Tryz.f88 zaz
theorem zwc:Lk0.func 88=some (88,Tryz.f88):=by kernel_rfl
theorem zwd [Sym] (x':Value) (x1':Value) (st:SS) {r:Value×SS} (h:entEq cc zwb x' x1' st=some r):cc 88 [x',x1'] st=some r:=
 zaf (li:=zaz) zai zal zwc rfl (fun _=>rfl) (.trans (by kernel_rfl) h)
noncomputable def zpi (cf:zak) (lf:zac) (s':Value) (q':Nat) (st:SS):Option (Value×SS):=
 (cf 104 [s',.func (.func 88) #[] #[ptr q' 0]] (st.ro st.next)).bind fun a=>
 ((some a.1).bind (asI .i64)).bind fun b=>
 some (.bool (decide (0≤b)),st.adv a.2.next)
noncomputable abbrev ztq:zac:=lS Tryz.prog Lk0 Tryz.f87 zaz
theorem ztr:Lk0.func 87=some (87,Tryz.f87):=by kernel_rfl
theorem zts [Sym] (s':Value) (q':Nat) (st:SS) {r:Value×SS} (h:zpi cc ztq s' q' st=some r):cc 87 [s',.func (.func 88) #[] #[ptr q' 0]] st=some r:=
 zaf (li:=zaz) zai zal ztr rfl (fun _=>rfl) (.trans (by kernel_rfl) h)
def zox:LoopI:=⟨[(0,.any),(1,.any),(7,.int .i64),(8,.int .i64)],[(.exit 0,[]),(.ret,[(4,.int .i64)])]⟩
def zpR (n:Nat):Option LoopI:=cond (Nat.beq n 2) (some zox) (none)
noncomputable def zq8 (cf:zak) (lf:zac) (s':Value) (q':Nat) (st:SS):Option (Value×SS):=
 ((lenV s').bind (asI .i64)).bind fun a=>
 (lf 2 [s',.func (.func 88) #[] #[ptr q' 0],.int .i64 a,.int .i64 0] (st.ro st.next)).bind fun b=>
 cond (Nat.beq b.1 0) (
 some (.int .i64 (-1),st.adv b.2.2.next)) (
 ((b.2.1[0]?).bind (asI .i64)).bind fun c=>
 some (.int .i64 c,st.adv b.2.2.next))
noncomputable abbrev zhh:zac:=lS Tryz.prog Lk0 Tryz.f104 zpR
theorem zuO:Lk0.func 104=some (104,Tryz.f104):=by kernel_rfl
theorem zpS [Sym] (s':Value) (q':Nat) (st:SS) {r:Value×SS} (h:zq8 cc zhh s' q' st=some r):cc 104 [s',.func (.func 88) #[] #[ptr q' 0]] st=some r:=
 zaf (li:=zpR) zai zal zuO rfl (fun _=>rfl) (.trans (by kernel_rfl) h)
noncomputable def zi6 (cf:zak) (lf:zac) (s':Value) (q':Nat) (t7':Int) (t8':Int) (st:SS):Option (Nat×List Value×SS):=
 cond (decide (t8'<t7')) (
 (zam s' t8' 2).bind fun a=>
 (st.ldN a.1 a.2 2).bind fun b=>
 (cf 88 [b,ptr q' 0] st).bind fun c=>
 ((some c.1).bind asB).bind fun d=>
 cond d (
 some (1,[.int .i64 t8'],c.2)) (
 let e:Int:=IntKind.wrap .i64 (t8'+1)
 lf 2 [s',.func (.func 88) #[] #[ptr q' 0],.int .i64 t7',.int .i64 e] c.2)) (
 some (0,[],st))
theorem ziw [Sym] (s':Value) (q':Nat) (t7':Int) (t8':Int) (st:SS) {r:Nat×List Value×SS} (h:zi6 cc zhh s' q' t7' t8' st=some r):zhh 2 [s',.func (.func 88) #[] #[ptr q' 0],.int .i64 t7',.int .i64 t8'] st=some r:=
 zaw zai zal (key:=2) (I:=zox) rfl (by kernel_rfl) (by kernel_rfl) rfl rfl (.trans (by kernel_rfl) h)
end Go.Proofs.YtifploedaacedaaGreatDoorE
namespace Go.Proofs.YtifploedaacedaaGreatDoorE
set_option maxRecDepth 20000
open Go Go.E Go.Proofs
noncomputable def zj2 (cf:zak) (lf:zac) (st:SS):Option (Value×SS):=
 let st1:SS:=st.new (.cells ([.string ⟨#[102,101,116,99,104]⟩,.string ⟨#[111,112,101,114,97,110,100]⟩,.string ⟨#[98,114,97,110,99,104]⟩,.string ⟨#[102,97,117,108,116]⟩,.string ⟨#[105,110,116,101,114,114,117,112,116]⟩]) 1)
 some (.slice (some ⟨st.next,0,none⟩) 5 5,st1)
noncomputable abbrev zix:zac:=lS Tryz.prog Lk0 Tryz.f32 zaz
theorem ziy:Lk0.func 32=some (32,Tryz.f32):=by kernel_rfl
theorem ziz [Sym] (st:SS) {r:Value×SS} (h:zj2 cc zix st=some r):cc 32 [] st=some r:=
 zaf (li:=zaz) zai zal ziy rfl (fun _=>rfl) (.trans (by kernel_rfl) h)
def zfx:LoopI:=⟨[(0,.str),(3,.int .i64)],[(.exit 0,[(0,.str)]),(.ret,[(2,.bool)])]⟩
def zf5 (n:Nat):Option LoopI:=cond (Nat.beq n 2) (some zfx) (none)
noncomputable def zeS (cf:zak) (lf:zac) (s':ByteArray) (st:SS):Option (Value×SS):=
 (lf 2 [.string s',.int .i64 0] st).bind fun a=>
 cond (Nat.beq a.1 0) (
 ((a.2.1[0]?).bind asS).bind fun b=>
 cond (decide (1≤(b.size:Int))) (
 some (.bool (decide ((b.size:Int)≤24)),a.2.2)) (
 some (.bool false,a.2.2))) (
 ((a.2.1[0]?).bind asB).bind fun c=>
 some (.bool c,a.2.2))
noncomputable abbrev zaT:zac:=lS Tryz.prog Lk0 Tryz.f55 zf5
theorem zj3:Lk0.func 55=some (55,Tryz.f55):=by kernel_rfl
theorem zf6 [Sym] (s':ByteArray) (st:SS) {r:Value×SS} (h:zeS cc zaT s' st=some r):cc 55 [.string s'] st=some r:=
 zaf (li:=zf5) zai zal zj3 rfl (fun _=>rfl) (.trans (by kernel_rfl) h)
noncomputable def zcK (cf:zak) (lf:zac) (s':ByteArray) (i':Int) (st:SS):Option (Nat×List Value×SS):=
 cond (decide (i'<(s'.size:Int))) (
 ((zcB s' i').bind (asI .u8)).bind fun a=>
 cond (decide (97≤a)) (
 cond (decide (a≤122)) (
 let b:Int:=IntKind.wrap .i64 (i'+1)
 lf 2 [.string s',.int .i64 b] st) (
 cond (decide (65≤a)) (
 cond (decide (a≤90)) (
 let c:Int:=IntKind.wrap .i64 (i'+1)
 lf 2 [.string s',.int .i64 c] st) (
 cond (!(decide (a=95))) (
 cond (decide (a<48)) (
 some (1,[.bool false],st)) (
 cond (decide (57<a)) (
 some (1,[.bool false],st)) (
 cond (decide (i'=0)) (
 some (1,[.bool false],st)) (
 let d:Int:=IntKind.wrap .i64 (i'+1)
 lf 2 [.string s',.int .i64 d] st)))) (
 let e:Int:=IntKind.wrap .i64 (i'+1)
 lf 2 [.string s',.int .i64 e] st))) (
 cond (!(decide (a=95))) (
 cond (decide (a<48)) (
 some (1,[.bool false],st)) (
 cond (decide (57<a)) (
 some (1,[.bool false],st)) (
 cond (decide (i'=0)) (
 some (1,[.bool false],st)) (
 let f:Int:=IntKind.wrap .i64 (i'+1)
 lf 2 [.string s',.int .i64 f] st)))) (
 let g:Int:=IntKind.wrap .i64 (i'+1)
 lf 2 [.string s',.int .i64 g] st)))) (
 cond (decide (65≤a)) (
 cond (decide (a≤90)) (
 let h:Int:=IntKind.wrap .i64 (i'+1)
 lf 2 [.string s',.int .i64 h] st) (
 cond (!(decide (a=95))) (
 cond (decide (a<48)) (
 some (1,[.bool false],st)) (
 cond (decide (57<a)) (
 some (1,[.bool false],st)) (
 cond (decide (i'=0)) (
 some (1,[.bool false],st)) (
 let i:Int:=IntKind.wrap .i64 (i'+1)
 lf 2 [.string s',.int .i64 i] st)))) (
 let j:Int:=IntKind.wrap .i64 (i'+1)
 lf 2 [.string s',.int .i64 j] st))) (
 cond (!(decide (a=95))) (
 cond (decide (a<48)) (
 some (1,[.bool false],st)) (
 cond (decide (57<a)) (
 some (1,[.bool false],st)) (
 cond (decide (i'=0)) (
 some (1,[.bool false],st)) (
 let k:Int:=IntKind.wrap .i64 (i'+1)
 lf 2 [.string s',.int .i64 k] st)))) (
 let l:Int:=IntKind.wrap .i64 (i'+1)
 lf 2 [.string s',.int .i64 l] st)))) (
 some (0,[.string s'],st))
theorem zdc [Sym] (s':ByteArray) (i':Int) (st:SS) {r:Nat×List Value×SS} (h:zcK cc zaT s' i' st=some r):zaT 2 [.string s',.int .i64 i'] st=some r:=
 zaw zai zal (key:=2) (I:=zfx) rfl (by kernel_rfl) (by kernel_rfl) rfl rfl (.trans (by kernel_rfl) h)
def zfy:LoopI:=⟨[(1,.any),(4,.any),(18,.any),(19,.int .i64),(20,.int .i64),(45,.any),(46,.int .i64),(47,.int .i64)],[(.exit 2,[(1,.any),(18,.any),(19,.int .i64),(20,.int .i64)]),(.ret,[(2,.bool)])]⟩
def zfz:LoopI:=⟨[(1,.any),(18,.any),(19,.int .i64),(20,.int .i64)],[(.exit 0,[]),(.ret,[(2,.bool)])]⟩
def zf7 (n:Nat):Option LoopI:=cond (Nat.beq n 4) (some zfz) (cond (Nat.beq n 9) (some zfy) (none))
noncomputable def zcF (cf:zak) (lf:zac) (r':Value) (st:SS):Option (Value×SS):=
 let a:SS:=st.new (.cells (r':Value).cells.toList 0)
 (a.ld st.next 0).bind fun b=>
 ((lenV b).bind (asI .i64)).bind fun c=>
 cond (decide (2048<c)) (
 some (.bool false,a)) (
 (a.ld st.next 1).bind fun d=>
 ((lenV d).bind (asI .i64)).bind fun e=>
 cond (decide (255<e)) (
 some (.bool false,a)) (
 (a.ld st.next 1).bind fun f=>
 ((lenV f).bind (asI .i64)).bind fun g=>
 (lf 4 [ptr st.next 0,f,.int .i64 g,.int .i64 0] a).bind fun h=>
 cond (Nat.beq h.1 0) (
 some (.bool true,h.2.2)) (
 ((h.2.1[0]?).bind asB).bind fun i=>
 some (.bool i,h.2.2))))
noncomputable abbrev za1:zac:=lS Tryz.prog Lk0 Tryz.f31 zf7
theorem zj4:Lk0.func 31=some (31,Tryz.f31):=by kernel_rfl
theorem zdR [Sym] (r':Value) (st:SS) {r:Value×SS} (h:zcF cc za1 r' st=some r):cc 31 [r'] st=some r:=
 zaf (li:=zf7) zai zal zj4 rfl (fun _=>rfl) (.trans (by kernel_rfl) h)
noncomputable def zbp (cf:zak) (lf:zac) (r':Value) (t18':Value) (t19':Int) (t20':Int) (st:SS):Option (Nat×List Value×SS):=
 cond (decide (t20'<t19')) (
 (zam t18' t20' 2).bind fun a=>
 (st.ldN a.1 a.2 2).bind fun b=>
 let c:SS:=st.new (.cells [.string ⟨#[]⟩,.int .i64 0] 0)
 (c.stV st.next 0 2 b).bind fun d=>
 ((d.ld st.next 0).bind asS).bind fun e=>
 (cf 55 [.string e] d).bind fun f=>
 ((some f.1).bind asB).bind fun g=>
 cond (!g) (
 some (1,[.bool false],f.2)) (
 ((f.2.ld st.next 1).bind (asI .i64)).bind fun h=>
 cond (decide (h<0)) (
 some (1,[.bool false],f.2)) (
 ((f.2.ld st.next 1).bind (asI .i64)).bind fun i=>
 (addr? r').bind fun j=>
 (f.2.ld j.1 j.2).bind fun k=>
 ((lenV k).bind (asI .i64)).bind fun l=>
 cond (decide (l≤i)) (
 some (1,[.bool false],f.2)) (
 (addr? r').bind fun m=>
 (f.2.ld m.1 (m.2+1)).bind fun n=>
 (f.2.resl n 2 0 t20').bind fun o=>
 ((lenV o).bind (asI .i64)).bind fun p=>
 (lf 9 [r',ptr st.next 0,t18',.int .i64 t19',.int .i64 t20',o,.int .i64 p,.int .i64 0] f.2).bind fun q=>
 cond (Nat.beq q.1 0) (
 (q.2.1[0]?).bind fun r=>
 (q.2.1[1]?).bind fun s=>
 ((q.2.1[2]?).bind (asI .i64)).bind fun t=>
 ((q.2.1[3]?).bind (asI .i64)).bind fun u=>
 let v:Int:=IntKind.wrap .i64 (u+1)
 lf 4 [r,s,.int .i64 t,.int .i64 v] q.2.2) (
 ((q.2.1[0]?).bind asB).bind fun w=>
 some (1,[.bool w],q.2.2)))))) (
 some (0,[],st))
theorem zbq [Sym] (r':Value) (t18':Value) (t19':Int) (t20':Int) (st:SS) {r:Nat×List Value×SS} (h:zbp cc za1 r' t18' t19' t20' st=some r):za1 4 [r',t18',.int .i64 t19',.int .i64 t20'] st=some r:=
 zaw zai zal (key:=4) (I:=zfz) rfl (by kernel_rfl) (by kernel_rfl) rfl rfl (.trans (by kernel_rfl) h)
noncomputable def zcL (cf:zak) (lf:zac) (r':Value) (e':Value) (t18':Value) (t19':Int) (t20':Int) (t45':Value) (t46':Int) (t47':Int) (st:SS):Option (Nat×List Value×SS):=
 cond (decide (t47'<t46')) (
 (zam t45' t47' 2).bind fun a=>
 (st.ldN a.1 a.2 2).bind fun b=>
 let c:SS:=st.new (.cells [.string ⟨#[]⟩,.int .i64 0] 0)
 (c.stV st.next 0 2 b).bind fun d=>
 ((d.ld st.next 0).bind asS).bind fun e=>
 (addr? e').bind fun f=>
 ((d.ld f.1 f.2).bind asS).bind fun g=>
 cond (eqT e g) (
 some (1,[.bool false],d)) (
 let h:Int:=IntKind.wrap .i64 (t47'+1)
 lf 9 [r',e',t18',.int .i64 t19',.int .i64 t20',t45',.int .i64 t46',.int .i64 h] d)) (
 some (0,[r',t18',.int .i64 t19',.int .i64 t20'],st))
theorem zdd [Sym] (r':Value) (e':Value) (t18':Value) (t19':Int) (t20':Int) (t45':Value) (t46':Int) (t47':Int) (st:SS) {r:Nat×List Value×SS} (h:zcL cc za1 r' e' t18' t19' t20' t45' t46' t47' st=some r):za1 9 [r',e',t18',.int .i64 t19',.int .i64 t20',t45',.int .i64 t46',.int .i64 t47'] st=some r:=
 zaw zai zal (key:=9) (I:=zfy) rfl (by kernel_rfl) (by kernel_rfl) rfl rfl (.trans (by kernel_rfl) h)
end Go.Proofs.YtifploedaacedaaGreatDoorE
